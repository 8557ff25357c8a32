/- jacquardref12.Turned: what it hands back is a program. -/
import Derived.Test.YtimpddecdodddaaGreatTlAll
namespace Go.Proofs.YtimpddecdodddaaGreat
open Go.RowKit Go.ChangeShapes Go.WideShapes
set_option linter.unusedVariables false
set_option maxHeartbeats 16000000 in
set_option maxRecDepth 1000000 in
theorem turned12_any (p:Z2) (x0 x1 x2:Int) (w:World) (hp:Xz w p) (h0:0<p.blocks.length) (hfew:∀ x∈p.blocks,x.ins.length≤50000∧x.fin.to.length≤100000) :
  Calls Tryz.prog 15 #[pv p,.agg #[.int .i64 x0,.int .i64 x1,.int .i64 x2]] w (fun e w'=>∃ q:Z2,e=.returned (pv q)∧Xz w' q∧Since w w'):=by
 obtain⟨pp,pk,ps,pbl,pbv⟩:=p
 obtain⟨pa,pc,hpv,_⟩:=RowIn.shape hp.1
 obtain⟨n,hnn⟩:∃ z,pbl.length=z:=⟨_,rfl⟩
 dsimp only at hpv h0 hfew
 have hn1:n≤100000:=by rw[←hnn];exact hp.2
 rw[hnn]at hpv h0
 subst hpv
 have HP:=Lib.hid hp
 have HN:=Lib.hid hnn
 have HFEW:=Lib.hid hfew
 obtain⟨k,hk,hk0,hk12⟩:=rest12 x0
 obtain⟨nn,hnq,hnn6⟩:=and64_few x2
 obtain⟨b,hb,hbn⟩:=and64_rest x1 n h0
 have hne:((n:Int)==0)=false:=beq_eq_false_iff_ne.2 (by omega)
 have HK:=Lib.hid hk
 have HNQ:=Lib.hid hnq
 have HB:=Lib.hid hb
 clear hp hnn hfew hk hnq hb
 unfold pv
 dsimp only
 go_enter Tryz.func15,Tryz.ntmps15
 go_upto_region 1 with fail
 obtain⟨wa,hwa⟩:∃ z,z=w.alloc (.cells #[.int .i64 pp,.int .i64 pk,.int .i64 ps,.slice pa n pc] 27):=⟨_,rfl⟩
 obtain⟨wb,hwb⟩:∃ z,z=wa.alloc (.cells #[.int .i64 x0,.int .i64 x1,.int .i64 x2] 53):=⟨_,rfl⟩
 obtain⟨w1,hw1⟩:∃ z,z=wb.alloc (.cells #[.int .i64 0,.int .i64 0,.int .i64 0,.slice none 0 0] 27):=⟨_,rfl⟩
 have za:wa.heap.size=w.heap.size+1:=by rw[hwa];simp
 have zb:wb.heap.size=w.heap.size+2:=by rw[hwb];simp[za]
 have sa:Since w wa:=by rw[hwa];exact (Since.refl _).alloc _
 have sb:Since wa wb:=by rw[hwb];exact (Since.refl _).alloc _
 have sc:Since wb w1:=by rw[hw1];exact (Since.refl _).alloc _
 obtain⟨pb,hpb⟩:∃ z,z=w.heap.size:=⟨_,rfl⟩
 obtain⟨qb,hqb⟩:∃ z,z=w.heap.size+1:=⟨_,rfl⟩
 obtain⟨rb,hrb⟩:∃ z,z=w.heap.size+2:=⟨_,rfl⟩
 have HPB:=Lib.hid (show HeapIs w1 pb #[.int .i64 pp,.int .i64 pk,.int .i64 ps,.slice pa n pc] 27 from by
  have k1:HeapIs wa pb #[.int .i64 pp,.int .i64 pk,.int .i64 ps,.slice pa n pc] 27:=by rw[hwa,hpb];exact HeapIs.new _ _ _
  exact (k1.keep sb).keep sc)
 have HQB:=Lib.hid (show HeapIs w1 qb #[.int .i64 x0,.int .i64 x1,.int .i64 x2] 53 from by
  have k2:HeapIs wb qb #[.int .i64 x0,.int .i64 x1,.int .i64 x2] 53:=by rw[hwb,hqb,←za];exact HeapIs.new _ _ _
  exact k2.keep sc)
 have HRB:=Lib.hid (show HeapIs w1 rb #[.int .i64 0,.int .i64 0,.int .i64 0,.slice none 0 0] 27 from by rw[hw1,hrb,←zb];exact HeapIs.new _ _ _)
 have HS1:=Lib.hid ((sa.trans sb).trans sc)
 have HLT:=Lib.hid (show pb≠rb∧w.heap.size≤pb∧w.heap.size≤rb from by omega)
 rw[←hwa,←hwb,←hw1,←hrb,←hqb,←hpb]
 clear hwa hwb hw1 za zb sa sb sc hpb hqb hrb
 have h9:=HPB.out
 have p0:=h9.cell 0
 have p1:=h9.cell 1
 have p2:=h9.cell 2
 have p3:=h9.cell 3
 have pl:=h9.lt
 clear h9
 go_wp2_with fail
 refine (own12_any ⟨pp,pk,ps,pbl,.slice pa n pc⟩ w1 (HP.out.keep HS1.out) (by dsimp only;rw[HN.out];exact h0) (fun x hx=>(HFEW.out x hx).2)).mono ?_
 clear p0 p1 p2 p3 pl
 rintro e w2 ⟨q,rfl,hq,hs2⟩
 obtain⟨g,c,bl,rfl,hg,hgl,hbl⟩:=own_shape1 hq HN.out h0
 have HQ:=Lib.hid hq
 have HBL:=Lib.hid hbl
 have HG:=Lib.hid (And.intro hg hgl)
 have HS2:=Lib.hid hs2
 unfold pv
 dsimp only
 clear hq hbl hg hgl hs2
 have h9:=HPB.out.keep HS2.out
 have p0:=h9.cell 0
 have p1:=h9.cell 1
 have p2:=h9.cell 2
 have p3:=h9.cell 3
 have pl:=h9.lt
 have pf:=h9.frozen
 clear h9
 go_upto_region 2 with fail
 clear p0 p1 p2 p3 pl pf
 obtain⟨w3,hw3⟩:∃ z,z=((((w2.setCell ⟨pb,0,none⟩ (.int .i64 pp)).setCell ⟨pb,1,none⟩ (.int .i64 pk)).setCell ⟨pb,2,none⟩ (.int .i64 ps)).setCell ⟨pb,3,none⟩ (.slice (some ⟨g,0,none⟩) n c)):=⟨_,rfl⟩
 have t3:Zb (fun q=>q=pb) w2 w3:=by rw[hw3];exact ((((Zb.refl (fun q=>q=pb) w2).setCell (p:=⟨pb,0,none⟩) rfl _).setCell (p:=⟨pb,1,none⟩) rfl _).setCell (p:=⟨pb,2,none⟩) rfl _).setCell (p:=⟨pb,3,none⟩) rfl _
 have k3:=Kin.box (HPB.out.keep HS2.out)
 have HPB3:=Lib.hid (show HeapIs w3 pb #[.int .i64 pp,.int .i64 pk,.int .i64 ps,.slice (some ⟨g,0,none⟩) n c] 27 from by rw[hw3];exact ((((HPB.out.keep HS2.out).set 0 _).set 1 _).set 2 _).set 3 _)
 have HQB3:=Lib.hid ((HQB.out.keep HS2.out).turn t3 (k3.heap (HQB.out.keep HS2.out) (by decide)))
 have HRB3:=Lib.hid ((HRB.out.keep HS2.out).turn t3 (fun e=>HLT.out.1 e.symm))
 have HROW3:=Lib.hid (show OwnRow blcells 6 34 w1.heap.size w3 (.slice (some ⟨g,0,none⟩) n c) bl from Zg (show w2.ownsRow _ _ _ _ _ _ from HQ.out.row) t3 (k3.apart (show w2.ownsRow _ _ _ _ _ _ from HQ.out.row) (by decide)))
 have HEACH3:=Lib.hid (show ∀ (t:Nat) (x y:Zx),pbl[t]? = some x→bl[t]? = some y→OwnB w1.heap.size w3 x y from fun t x y hx hy=>(HQ.out.each t x y hx hy).turn t3 k3 (by decide) (by decide))
 have HS3:=Lib.hid (t3.toSince (HS1.out.trans HS2.out) fun q hq e=>by have:=HLT.out;omega)
 rw[←hw3]
 clear hw3 t3 k3 HPB HQB HRB
 have HPS3:=Lib.hid (show ∀ (t:Nat) (y:Zx),bl[t]? = some y→PsB w.heap.size w3 y∧y.ins.length≤50000 from fun t y hy=>by
  have hl:t<pbl.length:=by have:=(List.getElem?_eq_some_iff.1 hy).1;rw[HBL.out]at this;rw[HN.out];exact this
  have e:=HEACH3.out t _ y (List.getElem?_eq_getElem hl) hy
  have hx:=RowIn.each_of HP.out.1 _ (List.getElem_mem hl)
  have hf:=HFEW.out _ (List.getElem_mem hl)
  exact⟨⟨XX (show w3.ownsRow _ _ _ _ _ _ from e.insv) HS1.out.size,XX e.tov HS1.out.size,fun z hz=>by
   rw[e.ins]at hz
   have h1:=RowIn.each_of hx.1 z hz
   exact⟨h1.1.keep HS3.out,h1.2⟩,by rw[e.ins];have:=hf.1;omega⟩,by rw[e.ins];exact hf.1⟩)
 obtain⟨XA0,hXA0⟩:∃ x,bl[b]? = some x:=⟨_,List.getElem?_eq_getElem (by rw[HBL.out];exact hbn)⟩
 have HX0:=Lib.hid hXA0
 have HAI:=Lib.hid (show ∀ (t:Nat) (z:Zx),bl[t]? = some z→t≠b→∀ q,z.insv.ownBlock=some q→¬ XA0.insv.ownBlock=some q from fun t z hz hne q hq=>HQ.out.apI t b z XA0 q (List.getElem?_eq_some_iff.1 hz).1 (List.getElem?_eq_some_iff.1 hXA0).1 hne hz hXA0 hq)
 have HAT:=Lib.hid (show ∀ (t:Nat) (z:Zx),bl[t]? = some z→t≠b→∀ q,z.fin.tov.ownBlock=some q→¬ XA0.fin.tov.ownBlock=some q from fun t z hz hne q hq=>HQ.out.apT t b z XA0 q (List.getElem?_eq_some_iff.1 hz).1 (List.getElem?_eq_some_iff.1 hXA0).1 hne hz hXA0 hq)
 have hps:=(HPS3.out b XA0 hXA0)
 obtain⟨ins0,insv0,fop,fa,fb,fto,ftov,fimm⟩:=XA0
 obtain⟨ia,ic,hiv⟩:=OwnRow.shape hps.1.insv
 obtain⟨ta,tc,htv⟩:=Ze hps.1.tov
 obtain⟨kn,hkn⟩:∃ z,ins0.length=z:=⟨_,rfl⟩
 obtain⟨tn,htn⟩:∃ z,fto.length=z:=⟨_,rfl⟩
 dsimp only at hiv htv
 rw[hkn]at hiv
 rw[htn]at htv
 subst hiv htv
 have HKN:=Lib.hid hkn
 have HTN:=Lib.hid htn
 have HPX:=Lib.hid hps.1
 have hkb:kn≤50000:=by rw[←hkn];exact hps.2
 have hcb:=Xv Z5 HROW3.out HX0.out
 have c0:w3.cell? ⟨g,b*6,none⟩=some (.slice ia kn ic):=hcb.1 0 (by decide)
 have c1:w3.cell? ⟨g,b*6+1,none⟩=some (.int .i64 fop):=hcb.1 1 (by decide)
 have c2:w3.cell? ⟨g,b*6+2,none⟩=some (.int .i64 fa):=hcb.1 2 (by decide)
 have c3:w3.cell? ⟨g,b*6+3,none⟩=some (.int .i64 fb):=hcb.1 3 (by decide)
 have c4:w3.cell? ⟨g,b*6+4,none⟩=some (.slice ta tn tc):=hcb.1 4 (by decide)
 have c5:w3.cell? ⟨g,b*6+5,none⟩=some (.int .i32 fimm):=hcb.1 5 (by decide)
 have cl:=hcb.2.1
 have h9:=HPB3.out
 have p3:=h9.cell 3
 have pl:=h9.lt
 have h9:=HQB3.out
 have q0:=h9.cell 0
 have q1:=h9.cell 1
 have q2:=h9.cell 2
 have ql:=h9.lt
 have hk:=HK.out
 have hnq:=HNQ.out
 have hb:=HB.out
 have hr12:=Kd x0 12 (by decide)
 clear h9 hcb hps hkn htn hXA0
 go_upto_region 8 with fail
 clear c0 c1 c2 c3 c4 c5 cl p3 pl q0 q1 q2 ql hk hnq hb hr12
 obtain⟨xb,hxb⟩:∃ z,z=w3.heap.size:=⟨_,rfl⟩
 obtain⟨w4,hw4⟩:∃ z,z=w3.alloc (.cells #[.slice ia kn ic,.int .i64 fop,.int .i64 fa,.int .i64 fb,.slice ta tn tc,.int .i32 fimm] 34):=⟨_,rfl⟩
 have s4:Since w3 w4:=by rw[hw4];exact (Since.refl _).alloc _
 have HTX:=Lib.hid (show TuX w pb rb xb g n c b pp pk ps bl ⟨ins0,.slice ia kn ic,⟨fop,fa,fb,fto,.slice ta tn tc,fimm⟩⟩ w4 from by
  have tt:=Zb.since (S:=fun _=>False) s4
  have hl:∀ q:Nat,False→w.heap.size≤q:=fun q e=>e.elim
  exact⟨HS3.out.trans s4,HPB3.out.keep s4,HRB3.out.keep s4,by rw[hw4,hxb];exact HeapIs.new _ _ _,Zv (XX (show w3.ownsRow _ _ _ _ _ _ from HROW3.out) HS1.out.size) s4,HPX.out.turn tt hl (fun q _ e=>e) (fun q _ e=>e),fun t z hz hne=>⟨(HPS3.out t z hz).1.turn tt hl (fun q _ e=>e) (fun q _ e=>e),HAI.out t z hz hne,HAT.out t z hz hne⟩,⟨HLT.out.1,by
   have h1:=(World.ownsRow.lt (show w3.ownsRow _ _ _ _ _ _ from HROW3.out) g rfl).2
   omega⟩,by have h1:=HLT.out;have h2:=HS3.out.size;omega⟩)
 have HQB4:=Lib.hid (HQB3.out.keep s4)
 rw[←hw4,←hxb]
 clear hw4 hxb s4 HQB3 HPB3 HRB3 HROW3 HEACH3 HPS3 HAI HAT HPX HX0 HP HFEW HQ HS1 HS2 HG
 rename_i K1 aK1 K2 aK2
 have HAK:=Lib.hid aK1
 have HJ:Hid (∀ {u0 u1 u9 u10 u11 u12 u13 u14 u15 u16 u17 u18 u19 u20 u21 u22 u23 u24 u25 u26 u27 u28 u29 u30 u31 u32 u33 u34 u35 u36 u37 u38 u39 u40 u41 u42 u43 u44 u45 u46 u47 u48 u49 u50 u51 u52 u53 u54 u55 u56 u57 u58 u59 u60 u61 u62 u63 u64 u65 u66 u67 u68 u69 u70 u71 u72 u73 u74 u75 u76 u77 u78 u79 u80 u81 u82 u83 u84 u85 u86 u87 u88 u89 u90 u91 u92 u93 u94 u95 u96 u97 u98 u99 u100 u101 u102 u103 u104 u105 u106 u107 u108 u109 u110 u111 u112 u113 u114 u115 u116 u117 u118 u119 u120 u121 u122 u123 u124 u125 u126 u127 u128 u129 u130 u131 u132 u133 u134 u135 u136 u137 u138 u139 u140 u141 u142 u143 u144 u145 u146 u147 u148 u149 u150 u151 u152 u153 u154 u155 u156 u157 u158 u159 u160 u161 u162 u163 u164 u165 u166 u167 u168 u169 u170 u171 u172 u173 u174 u175 u176 u177 u178 u179 u180 u181 u182 u183 u184 u185 u186 u187 u188 u189 u190 u191 u192 u193 u194 u195 u196 u197 u198 u199:Value} {w9:World} (X:Zx),0<X.ins.length→X.ins.length≤60000→TuX w pb rb xb g n c b pp pk ps bl X w9→K1 ⟨#[u0,u1,.pointer (some ⟨pb,0,none⟩),.pointer (some ⟨qb,0,none⟩),.pointer (some ⟨rb,0,none⟩),.int .i64 k,.int .i64 nn,.int .i64 b,.pointer (some ⟨xb,0,none⟩),u9,u10,u11,u12,u13,u14,u15,u16,u17,u18,u19,u20,u21,u22,u23,u24,u25,u26,u27,u28,u29,u30,u31,u32,u33,u34,u35,u36,u37,u38,u39,u40,u41,u42,u43,u44,u45,u46,u47,u48,u49,u50,u51,u52,u53,u54,u55,u56,u57,u58,u59,u60,u61,u62,u63,u64,u65,u66,u67,u68,u69,u70,u71,u72,u73,u74,u75,u76,u77,u78,u79,u80,u81,u82,u83,u84,u85,u86,u87,u88,u89,u90,u91,u92,u93,u94,u95,u96,u97,u98,u99,u100,u101,u102,u103,u104,u105,u106,u107,u108,u109,u110,u111,u112,u113,u114,u115,u116,u117,u118,u119,u120,u121,u122,u123,u124,u125,u126,u127,u128,u129,u130,u131,u132,u133,u134,u135,u136,u137,u138,u139,u140,u141,u142,u143,u144,u145,u146,u147,u148,u149,u150,u151,u152,u153,u154,u155,u156,u157,u158,u159,u160,u161,u162,u163,u164,u165,u166,u167,u168,u169,u170,u171,u172,u173,u174,u175,u176,u177,u178,u179,u180,u181,u182,u183,u184,u185,u186,u187,u188,u189,u190,u191,u192,u193,u194,u195,u196,u197,u198,u199],[]⟩ w9):=by
  clear aK1 aK2 HTX HQB4
  apply Lib.hid
  intro u0 u1 u9 u10 u11 u12 u13 u14 u15 u16 u17 u18 u19 u20 u21 u22 u23 u24 u25 u26 u27 u28 u29 u30 u31 u32 u33 u34 u35 u36 u37 u38 u39 u40 u41 u42 u43 u44 u45 u46 u47 u48 u49 u50 u51 u52 u53 u54 u55 u56 u57 u58 u59 u60 u61 u62 u63 u64 u65 u66 u67 u68 u69 u70 u71 u72 u73 u74 u75 u76 u77 u78 u79 u80 u81 u82 u83 u84 u85 u86 u87 u88 u89 u90 u91 u92 u93 u94 u95 u96 u97 u98 u99 u100 u101 u102 u103 u104 u105 u106 u107 u108 u109 u110 u111 u112 u113 u114 u115 u116 u117 u118 u119 u120 u121 u122 u123 u124 u125 u126 u127 u128 u129 u130 u131 u132 u133 u134 u135 u136 u137 u138 u139 u140 u141 u142 u143 u144 u145 u146 u147 u148 u149 u150 u151 u152 u153 u154 u155 u156 u157 u158 u159 u160 u161 u162 u163 u164 u165 u166 u167 u168 u169 u170 u171 u172 u173 u174 u175 u176 u177 u178 u179 u180 u181 u182 u183 u184 u185 u186 u187 u188 u189 u190 u191 u192 u193 u194 u195 u196 u197 u198 u199 w9 X hx0 hx6 hx
  refine HAK.out _ _ ?_
  obtain⟨ins,insv,op,a,b2,tl,tov,imm⟩:=X
  obtain⟨ja,jc,hiv⟩:=OwnRow.shape hx.x.insv
  obtain⟨ra,rc,htv⟩:=Ze hx.x.tov
  obtain⟨m,hm⟩:∃ z,ins.length=z:=⟨_,rfl⟩
  obtain⟨rn,hrn⟩:∃ z,tl.length=z:=⟨_,rfl⟩
  dsimp only at hiv htv hx0 hx6
  rw[hm]at hiv hx0 hx6
  rw[hrn]at htv
  subst hiv htv
  have HM:=Lib.hid hm
  have HRN:=Lib.hid hrn
  have HX:=Lib.hid hx
  obtain⟨i,hi,him⟩:∃ i:Nat,(nn:Int) / 7 % (m:Int)=(i:Int)∧i<m:=⟨nn / 7 % m,by push_cast;rfl,Nat.mod_lt _ hx0⟩
  have HI:=Lib.hid hi
  obtain⟨YA0,hy0⟩:∃ y,ins[i]? = some y:=⟨_,List.getElem?_eq_getElem (by rw[hm];exact him)⟩
  have HY0:=Lib.hid hy0
  obtain⟨jg,jcc,hjv,hjb,hjl,hjrow⟩:=KK (n:=m) (show w9.ownsRow w.heap.size 38 9 (.slice ja m jc) m (ins.flatMap plcells) from by rw[←hm];rw[←hm]at hx;exact hx.x.insv) hm hx0
  cases hjv
  have hyc:=Xv Zq hjrow hy0
  have hlow:=hx.x.low YA0 (List.mem_of_getElem? hy0)
  obtain⟨⟨yop,yd,ye,ya,yb0,yc,yimm,yargs⟩,yav,ysrc⟩:=YA0
  obtain⟨yq,ym,hyv⟩:=Zc hlow.1
  obtain⟨yn,hyn⟩:∃ z,yargs.length=z:=⟨_,rfl⟩
  dsimp only at hyv
  rw[hyn]at hyv
  subst hyv
  have HYN:=Lib.hid hyn
  have HLOW:=Lib.hid hlow
  have c0:w9.cell? ⟨jg,i*9,none⟩=some (.int .i64 yop):=hyc.1 0 (by decide)
  have c1:w9.cell? ⟨jg,i*9+1,none⟩=some (.int .i64 yd):=hyc.1 1 (by decide)
  have c2:w9.cell? ⟨jg,i*9+2,none⟩=some (.int .i64 ye):=hyc.1 2 (by decide)
  have c3:w9.cell? ⟨jg,i*9+3,none⟩=some (.int .i64 ya):=hyc.1 3 (by decide)
  have c4:w9.cell? ⟨jg,i*9+4,none⟩=some (.int .i64 yb0):=hyc.1 4 (by decide)
  have c5:w9.cell? ⟨jg,i*9+5,none⟩=some (.int .i64 yc):=hyc.1 5 (by decide)
  have c6:w9.cell? ⟨jg,i*9+6,none⟩=some (.int .i32 yimm):=hyc.1 6 (by decide)
  have c7:w9.cell? ⟨jg,i*9+7,none⟩=some (.slice yq yn ym):=hyc.1 7 (by decide)
  have c8:w9.cell? ⟨jg,i*9+8,none⟩=some (.int .i64 ysrc):=hyc.1 8 (by decide)
  have cl:=hyc.2.1
  have h9:=hx.xbox
  have z0:w9.cell? ⟨xb,0,none⟩=some (.slice (some ⟨jg,0,none⟩) m jc):=h9.cell 0
  have zl:=h9.lt
  have hm0:((m:Int)==0)=false:=beq_eq_false_iff_ne.2 (by omega)
  clear h9 hyc hlow hm hrn hx hy0 hyn hjrow
  go_upto_region 12 with fail
  clear c0 c1 c2 c3 c4 c5 c6 c7 c8 cl z0 zl hm0
  rw[hi]
  obtain⟨yb,hyb⟩:∃ z,z=w9.heap.size:=⟨_,rfl⟩
  obtain⟨wa1,hwa1⟩:∃ z,z=w9.alloc (.cells #[.int .i64 yop,.int .i64 yd,.int .i64 ye,.int .i64 ya,.int .i64 yb0,.int .i64 yc,.int .i32 yimm,.slice yq yn ym,.int .i64 ysrc] 38):=⟨_,rfl⟩
  have HTS:=Lib.hid (show TuS w pb rb xb yb g n c b pp pk ps bl ⟨ins,.slice (some ⟨jg,0,none⟩) m jc,⟨op,a,b2,tl,.slice ra rn rc,imm⟩⟩ ⟨⟨yop,yd,ye,ya,yb0,yc,yimm,yargs⟩,.slice yq yn ym,ysrc⟩ wa1 from by rw[hwa1,hyb];exact HX.out.box HLOW.out)
  rw[←hwa1,←hyb]
  clear hwa1 hyb hi HX HLOW
  go_upto_block 0 with fail
  rename_i K3 aK3
  have HAK3:=Lib.hid aK3
  have HJ2:Hid (∀ {u0 u1 u11 u12 u13 u14 u15 u16 u17 u18 u19 u20 u21 u22 u23 u24 u25 u26 u27 u28 u29 u30 u31 u32 u33 u34 u35 u36 u37 u38 u39 u40 u41 u42 u43 u44 u45 u46 u47 u48 u49 u50 u51 u52 u53 u54 u55 u56 u57 u58 u59 u60 u61 u62 u63 u64 u65 u66 u67 u68 u69 u70 u71 u72 u73 u74 u75 u76 u77 u78 u79 u80 u81 u82 u83 u84 u85 u86 u87 u88 u89 u90 u91 u92 u93 u94 u95 u96 u97 u98 u99 u100 u101 u102 u103 u104 u105 u106 u107 u108 u109 u110 u111 u112 u113 u114 u115 u116 u117 u118 u119 u120 u121 u122 u123 u124 u125 u126 u127 u128 u129 u130 u131 u132 u133 u134 u135 u136 u137 u138 u139 u140 u141 u142 u143 u144 u145 u146 u147 u148 u149 u150 u151 u152 u153 u154 u155 u156 u157 u158 u159 u160 u161 u162 u163 u164 u165 u166 u167 u168 u169 u170 u171 u172 u173 u174 u175 u176 u177 u178 u179 u180 u181 u182 u183 u184 u185 u186 u187 u188 u189 u190 u191 u192 u193 u194 u195 u196 u197 u198 u199:Value} {w9:World} (s:Int) (X:Zx) (Y:PlV),i<X.ins.length→TuS w pb rb xb yb g n c b pp pk s bl X Y w9→K3 ⟨#[u0,u1,.pointer (some ⟨pb,0,none⟩),.pointer (some ⟨qb,0,none⟩),.pointer (some ⟨rb,0,none⟩),.int .i64 k,.int .i64 nn,.int .i64 b,.pointer (some ⟨xb,0,none⟩),.int .i64 i,.pointer (some ⟨yb,0,none⟩),u11,u12,u13,u14,u15,u16,u17,u18,u19,u20,u21,u22,u23,u24,u25,u26,u27,u28,u29,u30,u31,u32,u33,u34,u35,u36,u37,u38,u39,u40,u41,u42,u43,u44,u45,u46,u47,u48,u49,u50,u51,u52,u53,u54,u55,u56,u57,u58,u59,u60,u61,u62,u63,u64,u65,u66,u67,u68,u69,u70,u71,u72,u73,u74,u75,u76,u77,u78,u79,u80,u81,u82,u83,u84,u85,u86,u87,u88,u89,u90,u91,u92,u93,u94,u95,u96,u97,u98,u99,u100,u101,u102,u103,u104,u105,u106,u107,u108,u109,u110,u111,u112,u113,u114,u115,u116,u117,u118,u119,u120,u121,u122,u123,u124,u125,u126,u127,u128,u129,u130,u131,u132,u133,u134,u135,u136,u137,u138,u139,u140,u141,u142,u143,u144,u145,u146,u147,u148,u149,u150,u151,u152,u153,u154,u155,u156,u157,u158,u159,u160,u161,u162,u163,u164,u165,u166,u167,u168,u169,u170,u171,u172,u173,u174,u175,u176,u177,u178,u179,u180,u181,u182,u183,u184,u185,u186,u187,u188,u189,u190,u191,u192,u193,u194,u195,u196,u197,u198,u199],[]⟩ w9):=by
   clear aK3
   apply Lib.hid
   intro u0 u1 u11 u12 u13 u14 u15 u16 u17 u18 u19 u20 u21 u22 u23 u24 u25 u26 u27 u28 u29 u30 u31 u32 u33 u34 u35 u36 u37 u38 u39 u40 u41 u42 u43 u44 u45 u46 u47 u48 u49 u50 u51 u52 u53 u54 u55 u56 u57 u58 u59 u60 u61 u62 u63 u64 u65 u66 u67 u68 u69 u70 u71 u72 u73 u74 u75 u76 u77 u78 u79 u80 u81 u82 u83 u84 u85 u86 u87 u88 u89 u90 u91 u92 u93 u94 u95 u96 u97 u98 u99 u100 u101 u102 u103 u104 u105 u106 u107 u108 u109 u110 u111 u112 u113 u114 u115 u116 u117 u118 u119 u120 u121 u122 u123 u124 u125 u126 u127 u128 u129 u130 u131 u132 u133 u134 u135 u136 u137 u138 u139 u140 u141 u142 u143 u144 u145 u146 u147 u148 u149 u150 u151 u152 u153 u154 u155 u156 u157 u158 u159 u160 u161 u162 u163 u164 u165 u166 u167 u168 u169 u170 u171 u172 u173 u174 u175 u176 u177 u178 u179 u180 u181 u182 u183 u184 u185 u186 u187 u188 u189 u190 u191 u192 u193 u194 u195 u196 u197 u198 u199 w9 s X Y hix hx
   refine HAK3.out _ _ ?_
   obtain⟨ins,insv,op,a,b2,tl,tov,imm⟩:=X
   obtain⟨⟨yop,yd,ye,ya,yb0,yc,yimm,yargs⟩,yav,ysrc⟩:=Y
   obtain⟨rn,hrn⟩:∃ z,tl.length=z:=⟨_,rfl⟩
   obtain⟨m,hm⟩:∃ z,ins.length=z:=⟨_,rfl⟩
   dsimp only at hix
   rw[hm]at hix
   obtain⟨ra,rc,htv⟩:=Ze hx.x.tov
   dsimp only at htv
   rw[hrn]at htv
   subst htv
   obtain⟨jg,jc,hjv,hjb,hjl,hjrow⟩:=KK (n:=m) (show w9.ownsRow w.heap.size 38 9 insv m (ins.flatMap plcells) from by rw[←hm];exact hx.x.insv) hm (by omega)
   subst hjv
   obtain⟨yq,ym,hyv⟩:=Zc hx.y.1
   obtain⟨yn,hyn⟩:∃ z,yargs.length=z:=⟨_,rfl⟩
   dsimp only at hyv
   rw[hyn]at hyv
   subst hyv
   have HM:=Lib.hid hm
   have HX:=Lib.hid hx
   have HROW:=Lib.hid hjrow
   obtain⟨y9,hy9⟩:∃ y,ins[i]? = some y:=⟨_,List.getElem?_eq_getElem (by rw[hm];exact hix)⟩
   have hrc:=Xv Zq hjrow hy9
   have rl:=hrc.2.1
   have rf:=hrc.2.2
   have r0:=hrc.1 0 (by decide)
   have r1:=hrc.1 1 (by decide)
   have r2:=hrc.1 2 (by decide)
   have r3:=hrc.1 3 (by decide)
   have r4:=hrc.1 4 (by decide)
   have r5:=hrc.1 5 (by decide)
   have r6:=hrc.1 6 (by decide)
   have r7:=hrc.1 7 (by decide)
   have r8:=hrc.1 8 (by decide)
   simp only[plcells,List.getElem?_cons_zero,List.getElem?_cons_succ,Nat.add_zero]at r0 r1 r2 r3 r4 r5 r6 r7 r8
   have h9:=hx.ybox
   have y0:w9.cell? ⟨yb,0,none⟩=some (.int .i64 yop):=h9.cell 0
   have y1:w9.cell? ⟨yb,1,none⟩=some (.int .i64 yd):=h9.cell 1
   have y2:w9.cell? ⟨yb,2,none⟩=some (.int .i64 ye):=h9.cell 2
   have y3:w9.cell? ⟨yb,3,none⟩=some (.int .i64 ya):=h9.cell 3
   have y4:w9.cell? ⟨yb,4,none⟩=some (.int .i64 yb0):=h9.cell 4
   have y5:w9.cell? ⟨yb,5,none⟩=some (.int .i64 yc):=h9.cell 5
   have y6:w9.cell? ⟨yb,6,none⟩=some (.int .i32 yimm):=h9.cell 6
   have y7:w9.cell? ⟨yb,7,none⟩=some (.slice yq yn ym):=h9.cell 7
   have y8:w9.cell? ⟨yb,8,none⟩=some (.int .i64 ysrc):=h9.cell 8
   have yl:=h9.lt
   clear h9
   have h9:=hx.xbox
   have z0:w9.cell? ⟨xb,0,none⟩=some (.slice (some ⟨jg,0,none⟩) m jc):=h9.cell 0
   have zl:=h9.lt
   clear h9 hrc hx hjrow hm hyn hrn hy9
   go_upto_region 42 with fail
   clear r0 r1 r2 r3 r4 r5 r6 r7 r8 rl rf y0 y1 y2 y3 y4 y5 y6 y7 y8 yl z0 zl
   obtain⟨wa,hwa⟩:∃ z,z=(((((((((w9.setCell ⟨jg,i*9,none⟩ (.int .i64 yop)).setCell ⟨jg,i*9+1,none⟩ (.int .i64 yd)).setCell ⟨jg,i*9+2,none⟩ (.int .i64 ye)).setCell ⟨jg,i*9+3,none⟩ (.int .i64 ya)).setCell ⟨jg,i*9+4,none⟩ (.int .i64 yb0)).setCell ⟨jg,i*9+5,none⟩ (.int .i64 yc)).setCell ⟨jg,i*9+6,none⟩ (.int .i32 yimm)).setCell ⟨jg,i*9+7,none⟩ (.slice yq yn ym)).setCell ⟨jg,i*9+8,none⟩ (.int .i64 ysrc)):=⟨_,rfl⟩
   have ta:Zb (fun q=>(Value.slice (some ⟨jg,0,none⟩) m jc).ownBlock=some q) w9 wa:=by rw[hwa];exact ((((((((((Zb.refl (fun q=>(Value.slice (some ⟨jg,0,none⟩) m jc).ownBlock=some q) w9).setCell (p:=⟨jg,i*9,none⟩) rfl _).setCell (p:=⟨jg,i*9+1,none⟩) rfl _).setCell (p:=⟨jg,i*9+2,none⟩) rfl _).setCell (p:=⟨jg,i*9+3,none⟩) rfl _).setCell (p:=⟨jg,i*9+4,none⟩) rfl _).setCell (p:=⟨jg,i*9+5,none⟩) rfl _).setCell (p:=⟨jg,i*9+6,none⟩) rfl _).setCell (p:=⟨jg,i*9+7,none⟩) rfl _).setCell (p:=⟨jg,i*9+8,none⟩) rfl _)
   have HA:=Lib.hid (HX.out.setI ta (ins:=ins.set i ⟨⟨yop,yd,ye,ya,yb0,yc,yimm,yargs⟩,.slice yq yn ym,ysrc⟩) (by rw[hwa];exact Jg ⟨⟨yop,yd,ye,ya,yb0,yc,yimm,yargs⟩,.slice yq yn ym,ysrc⟩ HROW.out (by rw[HM.out];exact hix)) (fun z hz=>(List.mem_or_eq_of_mem_set hz).elim (HX.out.x.low z) (fun e=>e ▸ HX.out.y)) (by rw[List.length_set];exact HX.out.x.few) rfl)
   rw[←hwa]
   clear hwa ta HROW HX
   have h9:=HA.out.pbox
   have p3:=h9.cell 3
   have pl:=h9.lt
   clear h9
   have h9:=HA.out.xbox
   have z0:wa.cell? ⟨xb,0,none⟩=some (.slice (some ⟨jg,0,none⟩) m jc):=h9.cell 0
   have z1:wa.cell? ⟨xb,1,none⟩=some (.int .i64 op):=h9.cell 1
   have z2:wa.cell? ⟨xb,2,none⟩=some (.int .i64 a):=h9.cell 2
   have z3:wa.cell? ⟨xb,3,none⟩=some (.int .i64 b2):=h9.cell 3
   have z4:wa.cell? ⟨xb,4,none⟩=some (.slice ra rn rc):=h9.cell 4
   have z5:wa.cell? ⟨xb,5,none⟩=some (.int .i32 imm):=h9.cell 5
   have zl:=h9.lt
   clear h9
   obtain⟨y8,hy8⟩:∃ y,bl[b]? = some y:=⟨_,List.getElem?_eq_getElem (by rw[HBL.out];exact hbn)⟩
   have hrc:=Xv Z5 HA.out.row hy8
   have rl:=hrc.2.1
   have rf:=hrc.2.2
   have r0:=hrc.1 0 (by decide)
   have r1:=hrc.1 1 (by decide)
   have r2:=hrc.1 2 (by decide)
   have r3:=hrc.1 3 (by decide)
   have r4:=hrc.1 4 (by decide)
   have r5:=hrc.1 5 (by decide)
   simp only[blcells,List.getElem?_cons_zero,List.getElem?_cons_succ,Nat.add_zero]at r0 r1 r2 r3 r4 r5
   clear hrc hy8
   go_upto_region 43 with fail
   clear r0 r1 r2 r3 r4 r5 rl rf p3 pl z0 z1 z2 z3 z4 z5 zl
   obtain⟨wb,hwb⟩:∃ z,z=((((((wa.setCell ⟨g,b*6,none⟩ (.slice (some ⟨jg,0,none⟩) m jc)).setCell ⟨g,b*6+1,none⟩ (.int .i64 op)).setCell ⟨g,b*6+2,none⟩ (.int .i64 a)).setCell ⟨g,b*6+3,none⟩ (.int .i64 b2)).setCell ⟨g,b*6+4,none⟩ (.slice ra rn rc)).setCell ⟨g,b*6+5,none⟩ (.int .i32 imm)):=⟨_,rfl⟩
   have tb:Zb (fun q=>q=g) wa wb:=by rw[hwb];exact (((((((Zb.refl (fun q=>q=g) wa).setCell (p:=⟨g,b*6,none⟩) rfl _).setCell (p:=⟨g,b*6+1,none⟩) rfl _).setCell (p:=⟨g,b*6+2,none⟩) rfl _).setCell (p:=⟨g,b*6+3,none⟩) rfl _).setCell (p:=⟨g,b*6+4,none⟩) rfl _).setCell (p:=⟨g,b*6+5,none⟩) rfl _)
   have HROWb:=Lib.hid (show OwnRow blcells 6 34 w.heap.size wb (.slice (some ⟨g,0,none⟩) n c) (bl.set b ⟨ins.set i ⟨⟨yop,yd,ye,ya,yb0,yc,yimm,yargs⟩,.slice yq yn ym,ysrc⟩,.slice (some ⟨jg,0,none⟩) m jc,⟨op,a,b2,tl,.slice ra rn rc,imm⟩⟩) from by rw[hwb];exact ZbP ⟨ins.set i ⟨⟨yop,yd,ye,ya,yb0,yc,yimm,yargs⟩,.slice yq yn ym,ysrc⟩,.slice (some ⟨jg,0,none⟩) m jc,⟨op,a,b2,tl,.slice ra rn rc,imm⟩⟩ HA.out.row (by rw[HBL.out];exact hbn))
   have HPUT:=Lib.hid (HA.out.put (by rw[HBL.out];exact hbn) tb)
   rw[←hwb]
   clear hwb tb HA
   have h9:=HPUT.out.2.1
   have p0:=h9.cell 0
   have p1:=h9.cell 1
   have p2:=h9.cell 2
   have p3:=h9.cell 3
   have pl:=h9.lt
   clear h9
   have h9:=HPUT.out.2.2.1
   have r0:=h9.cell 0
   have r1:=h9.cell 1
   have r2:=h9.cell 2
   have r3:=h9.cell 3
   have rl:=h9.lt
   have rf:=h9.frozen
   clear h9
   go_wp2_with fail
   have hres:=(((HPUT.out.2.2.1.set 0 (.int .i64 pp)).set 1 (.int .i64 pk)).set 2 (.int .i64 s)).set 3 (.slice (some ⟨g,0,none⟩) n c)
   have tr:Zb (fun q=>q=rb) wb _:=((((Zb.refl (fun q=>q=rb) wb).setCell (p:=⟨rb,0,none⟩) rfl (.int .i64 pp)).setCell (p:=⟨rb,1,none⟩) rfl (.int .i64 pk)).setCell (p:=⟨rb,2,none⟩) rfl (.int .i64 s)).setCell (p:=⟨rb,3,none⟩) rfl (.slice (some ⟨g,0,none⟩) n c)
   have kr:=Kin.box HPUT.out.2.2.1
   have lr:∀ q:Nat,q=rb→w.heap.size≤q:=fun q e=>by have:=HLT.out;omega
   try simp only[Exit.inBlock,Exit.then]
   refine bodyPost_ret (results_cell_row rfl _ _ rb 27 #[.int .i64 pp,.int .i64 pk,.int .i64 s,.slice (some ⟨g,0,none⟩) n c] (0,0) _ rfl hres Tryz.underlying27 rfl (by kernel_rfl)) rfl ?_
   have hs:=tr.toSince HPUT.out.1 fun q hq e=>by have:=lr q e;omega
   exact⟨⟨pp,pk,s,_,.slice (some ⟨g,0,none⟩) n c⟩,rfl,⟨Z0 Z5 (Zg (show wb.ownsRow _ _ _ _ _ _ from HROWb.out) tr (kr.apart (show wb.ownsRow _ _ _ _ _ _ from HROWb.out) (by decide))) fun z hz=>(((HPUT.out.2.2.2 z hz).turn tr lr (kr.apart (show wb.ownsRow _ _ _ _ _ _ from (HPUT.out.2.2.2 z hz).insv) (by decide)) (kr.apart (HPUT.out.2.2.2 z hz).tov (by decide))).ok hs.size),by show (bl.set b _).length≤100000;rw[List.length_set,HBL.out];exact hn1⟩,hs⟩
  clear aK3 HAK3
  obtain rfl|rfl|rfl|rfl|rfl|rfl|rfl|rfl|rfl|rfl|rfl|rfl:k=0∨k=1∨k=2∨k=3∨k=4∨k=5∨k=6∨k=7∨k=8∨k=9∨k=10∨k=11:=by omega
  ·have h9:=HTS.out.ybox
   have y1:wa1.cell? ⟨yb,1,none⟩=some (.int .i64 yd):=h9.cell 1
   have yl:=h9.lt
   have yf:=h9.frozen
   clear h9
   go_wp2_with fail
   exact HJ2.out ps _ ⟨⟨yop,((nn:Int) % 6),ye,ya,yb0,yc,yimm,yargs⟩,.slice yq yn ym,ysrc⟩ (by dsimp only;rw[HM.out];exact him) (HTS.out.setY ((Zb.refl (fun q=>q=yb) wa1).setCell (p:=⟨yb,1,none⟩) rfl _) (HTS.out.ybox.set 1 _) HTS.out.y)
  ·have h9:=HTS.out.ybox
   have y3:wa1.cell? ⟨yb,3,none⟩=some (.int .i64 ya):=h9.cell 3
   have yl:=h9.lt
   have yf:=h9.frozen
   clear h9
   go_wp2_with fail
   exact HJ2.out ps _ ⟨⟨yop,yd,ye,((nn:Int) % 6),yb0,yc,yimm,yargs⟩,.slice yq yn ym,ysrc⟩ (by dsimp only;rw[HM.out];exact him) (HTS.out.setY ((Zb.refl (fun q=>q=yb) wa1).setCell (p:=⟨yb,3,none⟩) rfl _) (HTS.out.ybox.set 3 _) HTS.out.y)
  ·have h9:=HTS.out.ybox
   have y4:wa1.cell? ⟨yb,4,none⟩=some (.int .i64 yb0):=h9.cell 4
   have yl:=h9.lt
   have yf:=h9.frozen
   clear h9
   go_wp2_with fail
   exact HJ2.out ps _ ⟨⟨yop,yd,ye,ya,((nn:Int) % 6),yc,yimm,yargs⟩,.slice yq yn ym,ysrc⟩ (by dsimp only;rw[HM.out];exact him) (HTS.out.setY ((Zb.refl (fun q=>q=yb) wa1).setCell (p:=⟨yb,4,none⟩) rfl _) (HTS.out.ybox.set 4 _) HTS.out.y)
  ·have h9:=HTS.out.ybox
   have y6:wa1.cell? ⟨yb,6,none⟩=some (.int .i32 yimm):=h9.cell 6
   have yl:=h9.lt
   have yf:=h9.frozen
   clear h9
   go_wp2_with fail
   exact HJ2.out ps _ ⟨⟨yop,yd,ye,ya,yb0,yc,(wrap32 (wrap32 (yimm+(nn:Int) % 5)-2)),yargs⟩,.slice yq yn ym,ysrc⟩ (by dsimp only;rw[HM.out];exact him) (HTS.out.setY ((Zb.refl (fun q=>q=yb) wa1).setCell (p:=⟨yb,6,none⟩) rfl _) (HTS.out.ybox.set 6 _) ⟨HTS.out.y.1,⟨(wrap32_b _).1,(wrap32_b _).2,HTS.out.y.2.1.2.2⟩,HTS.out.y.2.2⟩)
  ·have h9:=HTS.out.ybox
   have y0:wa1.cell? ⟨yb,0,none⟩=some (.int .i64 yop):=h9.cell 0
   have yl:=h9.lt
   have yf:=h9.frozen
   clear h9
   go_wp2_with fail
   exact HJ2.out ps _ ⟨⟨((nn:Int) % 33),yd,ye,ya,yb0,yc,yimm,yargs⟩,.slice yq yn ym,ysrc⟩ (by dsimp only;rw[HM.out];exact him) (HTS.out.setY ((Zb.refl (fun q=>q=yb) wa1).setCell (p:=⟨yb,0,none⟩) rfl _) (HTS.out.ybox.set 0 _) HTS.out.y)
  ·have h9:=HTS.out.ybox
   have y8:wa1.cell? ⟨yb,8,none⟩=some (.int .i64 ysrc):=h9.cell 8
   have yl:=h9.lt
   have yf:=h9.frozen
   clear h9
   go_wp2_with fail
   exact HJ2.out ps _ ⟨⟨yop,yd,ye,ya,yb0,yc,yimm,yargs⟩,.slice yq yn ym,((nn:Int) % 9-2)⟩ (by dsimp only;rw[HM.out];exact him) (HTS.out.setY ((Zb.refl (fun q=>q=yb) wa1).setCell (p:=⟨yb,8,none⟩) rfl _) (HTS.out.ybox.set 8 _) HTS.out.y)
  ·obtain⟨k2,hk2,hk2m⟩:∃ k2:Nat,(nn:Int) / 3 % (m:Int)=(k2:Int)∧k2<m:=⟨nn / 3 % m,by push_cast;rfl,Nat.mod_lt _ hx0⟩
   obtain⟨Z,hz⟩:∃ y,ins[k2]? = some y:=⟨_,List.getElem?_eq_getElem (by rw[HM.out];exact hk2m)⟩
   have hrow:OwnRow plcells 9 38 w.heap.size wa1 (.slice (some ⟨jg,0,none⟩) m jc) ins:=HTS.out.x.insv
   have hzc:=Xv Zq hrow hz
   have hlow:=HTS.out.x.low Z (List.mem_of_getElem? hz)
   have HZ:=Lib.hid hz
   obtain⟨⟨zop,zd,ze,za,zb0,zc,zimm,zargs⟩,zav,zsrc⟩:=Z
   obtain⟨zq,zm,hzv⟩:=Zc hlow.1
   obtain⟨zn,hzn⟩:∃ z,zargs.length=z:=⟨_,rfl⟩
   dsimp only at hzv
   rw[hzn]at hzv
   subst hzv
   have HLOWZ:=Lib.hid hlow
   have c0:wa1.cell? ⟨jg,k2*9,none⟩=some (.int .i64 zop):=hzc.1 0 (by decide)
   have c1:wa1.cell? ⟨jg,k2*9+1,none⟩=some (.int .i64 zd):=hzc.1 1 (by decide)
   have c2:wa1.cell? ⟨jg,k2*9+2,none⟩=some (.int .i64 ze):=hzc.1 2 (by decide)
   have c3:wa1.cell? ⟨jg,k2*9+3,none⟩=some (.int .i64 za):=hzc.1 3 (by decide)
   have c4:wa1.cell? ⟨jg,k2*9+4,none⟩=some (.int .i64 zb0):=hzc.1 4 (by decide)
   have c5:wa1.cell? ⟨jg,k2*9+5,none⟩=some (.int .i64 zc):=hzc.1 5 (by decide)
   have c6:wa1.cell? ⟨jg,k2*9+6,none⟩=some (.int .i32 zimm):=hzc.1 6 (by decide)
   have c7:wa1.cell? ⟨jg,k2*9+7,none⟩=some (.slice zq zn zm):=hzc.1 7 (by decide)
   have c8:wa1.cell? ⟨jg,k2*9+8,none⟩=some (.int .i64 zsrc):=hzc.1 8 (by decide)
   have cl:=hzc.2.1
   have h9:=HTS.out.xbox
   have z0:wa1.cell? ⟨xb,0,none⟩=some (.slice (some ⟨jg,0,none⟩) m jc):=h9.cell 0
   have zl:=h9.lt
   have hm0:((m:Int)==0)=false:=beq_eq_false_iff_ne.2 (by omega)
   clear h9 hzc hlow hz hzn hrow
   go_upto_region 29 with fail
   clear c0 c1 c2 c3 c4 c5 c6 c7 c8 cl z0 zl hm0
   try rw[hk2]
   obtain⟨zb,hzb⟩:∃ z,z=wa1.heap.size:=⟨_,rfl⟩
   obtain⟨wc,hwc⟩:∃ z,z=wa1.alloc (.cells #[.int .i64 zop,.int .i64 zd,.int .i64 ze,.int .i64 za,.int .i64 zb0,.int .i64 zc,.int .i32 zimm,.slice zq zn zm,.int .i64 zsrc] 38):=⟨_,rfl⟩
   have sc:Since wa1 wc:=by rw[hwc];exact (Since.refl _).alloc _
   have HZB:=Lib.hid (show HeapIs wc zb #[.int .i64 zop,.int .i64 zd,.int .i64 ze,.int .i64 za,.int .i64 zb0,.int .i64 zc,.int .i32 zimm,.slice zq zn zm,.int .i64 zsrc] 38 from by rw[hwc,hzb];exact HeapIs.new _ _ _)
   have HTC:=Lib.hid (HTS.out.keep sc)
   have HLZC:=Lib.hid (show LowPl w.heap.size wc ⟨⟨zop,zd,ze,za,zb0,zc,zimm,zargs⟩,.slice zq zn zm,zsrc⟩ from⟨HLOWZ.out.1.keep sc,HLOWZ.out.2⟩)
   have HNE:=Lib.hid (show zb≠jg∧zb≠yb from by have h1:=(World.ownsRow.lt (show wa1.ownsRow _ _ _ _ _ _ from HTS.out.x.insv) jg rfl).2;have h2:=HTS.out.ybox.lt;omega)
   rw[←hwc,←hzb]
   clear hwc hzb sc hk2
   have hrow:OwnRow plcells 9 38 w.heap.size wc (.slice (some ⟨jg,0,none⟩) m jc) ins:=HTC.out.x.insv
   have hzc:=Xv Zq hrow HZ.out
   have c0:wc.cell? ⟨jg,k2*9,none⟩=some (.int .i64 zop):=hzc.1 0 (by decide)
   have c1:wc.cell? ⟨jg,k2*9+1,none⟩=some (.int .i64 zd):=hzc.1 1 (by decide)
   have c2:wc.cell? ⟨jg,k2*9+2,none⟩=some (.int .i64 ze):=hzc.1 2 (by decide)
   have c3:wc.cell? ⟨jg,k2*9+3,none⟩=some (.int .i64 za):=hzc.1 3 (by decide)
   have c4:wc.cell? ⟨jg,k2*9+4,none⟩=some (.int .i64 zb0):=hzc.1 4 (by decide)
   have c5:wc.cell? ⟨jg,k2*9+5,none⟩=some (.int .i64 zc):=hzc.1 5 (by decide)
   have c6:wc.cell? ⟨jg,k2*9+6,none⟩=some (.int .i32 zimm):=hzc.1 6 (by decide)
   have c7:wc.cell? ⟨jg,k2*9+7,none⟩=some (.slice zq zn zm):=hzc.1 7 (by decide)
   have c8:wc.cell? ⟨jg,k2*9+8,none⟩=some (.int .i64 zsrc):=hzc.1 8 (by decide)
   have cl:=hzc.2.1
   have cf:=hzc.2.2
   have h9:=HTC.out.ybox
   have y0:wc.cell? ⟨yb,0,none⟩=some (.int .i64 yop):=h9.cell 0
   have y1:wc.cell? ⟨yb,1,none⟩=some (.int .i64 yd):=h9.cell 1
   have y2:wc.cell? ⟨yb,2,none⟩=some (.int .i64 ye):=h9.cell 2
   have y3:wc.cell? ⟨yb,3,none⟩=some (.int .i64 ya):=h9.cell 3
   have y4:wc.cell? ⟨yb,4,none⟩=some (.int .i64 yb0):=h9.cell 4
   have y5:wc.cell? ⟨yb,5,none⟩=some (.int .i64 yc):=h9.cell 5
   have y6:wc.cell? ⟨yb,6,none⟩=some (.int .i32 yimm):=h9.cell 6
   have y7:wc.cell? ⟨yb,7,none⟩=some (.slice yq yn ym):=h9.cell 7
   have y8:wc.cell? ⟨yb,8,none⟩=some (.int .i64 ysrc):=h9.cell 8
   have yl:=h9.lt
   clear h9
   have h9:=HTC.out.xbox
   have z0:wc.cell? ⟨xb,0,none⟩=some (.slice (some ⟨jg,0,none⟩) m jc):=h9.cell 0
   have zl:=h9.lt
   clear h9 hzc
   go_upto_region 30 with fail
   clear c0 c1 c2 c3 c4 c5 c6 c7 c8 cl cf z0 zl y0 y1 y2 y3 y4 y5 y6 y7 y8 yl
   obtain⟨wd,hwd⟩:∃ z,z=(((((((((wc.setCell ⟨jg,k2*9,none⟩ (.int .i64 yop)).setCell ⟨jg,k2*9+1,none⟩ (.int .i64 yd)).setCell ⟨jg,k2*9+2,none⟩ (.int .i64 ye)).setCell ⟨jg,k2*9+3,none⟩ (.int .i64 ya)).setCell ⟨jg,k2*9+4,none⟩ (.int .i64 yb0)).setCell ⟨jg,k2*9+5,none⟩ (.int .i64 yc)).setCell ⟨jg,k2*9+6,none⟩ (.int .i32 yimm)).setCell ⟨jg,k2*9+7,none⟩ (.slice yq yn ym)).setCell ⟨jg,k2*9+8,none⟩ (.int .i64 ysrc)):=⟨_,rfl⟩
   have td:Zb (fun q=>(Value.slice (some ⟨jg,0,none⟩) m jc).ownBlock=some q) wc wd:=by rw[hwd];exact ((((((((((Zb.refl (fun q=>(Value.slice (some ⟨jg,0,none⟩) m jc).ownBlock=some q) wc).setCell (p:=⟨jg,k2*9,none⟩) rfl _).setCell (p:=⟨jg,k2*9+1,none⟩) rfl _).setCell (p:=⟨jg,k2*9+2,none⟩) rfl _).setCell (p:=⟨jg,k2*9+3,none⟩) rfl _).setCell (p:=⟨jg,k2*9+4,none⟩) rfl _).setCell (p:=⟨jg,k2*9+5,none⟩) rfl _).setCell (p:=⟨jg,k2*9+6,none⟩) rfl _).setCell (p:=⟨jg,k2*9+7,none⟩) rfl _).setCell (p:=⟨jg,k2*9+8,none⟩) rfl _)
   have HTD:=Lib.hid (HTC.out.setI td (ins:=ins.set k2 ⟨⟨yop,yd,ye,ya,yb0,yc,yimm,yargs⟩,.slice yq yn ym,ysrc⟩) (by rw[hwd];exact Jg ⟨⟨yop,yd,ye,ya,yb0,yc,yimm,yargs⟩,.slice yq yn ym,ysrc⟩ hrow (by rw[HM.out];exact hk2m)) (fun z hz=>(List.mem_or_eq_of_mem_set hz).elim (HTC.out.x.low z) (fun e=>e ▸ HTC.out.y)) (by rw[List.length_set];exact HTC.out.x.few) rfl)
   have HLZ:=Lib.hid (HLZC.out.turn td fun q e=>(World.ownsRow.lt (show wc.ownsRow _ _ _ _ _ _ from HTC.out.x.insv) q e).1)
   have HZD:=Lib.hid (HZB.out.turn td (fun e=>HNE.out.1 (Option.some.inj e).symm))
   rw[←hwd]
   clear hwd td hrow HZB
   have h9:=HZD.out
   have v0:wd.cell? ⟨zb,0,none⟩=some (.int .i64 zop):=h9.cell 0
   have v1:wd.cell? ⟨zb,1,none⟩=some (.int .i64 zd):=h9.cell 1
   have v2:wd.cell? ⟨zb,2,none⟩=some (.int .i64 ze):=h9.cell 2
   have v3:wd.cell? ⟨zb,3,none⟩=some (.int .i64 za):=h9.cell 3
   have v4:wd.cell? ⟨zb,4,none⟩=some (.int .i64 zb0):=h9.cell 4
   have v5:wd.cell? ⟨zb,5,none⟩=some (.int .i64 zc):=h9.cell 5
   have v6:wd.cell? ⟨zb,6,none⟩=some (.int .i32 zimm):=h9.cell 6
   have v7:wd.cell? ⟨zb,7,none⟩=some (.slice zq zn zm):=h9.cell 7
   have v8:wd.cell? ⟨zb,8,none⟩=some (.int .i64 zsrc):=h9.cell 8
   have vl:=h9.lt
   clear h9
   have hz:=HTD.out.ybox
   go_wp2_with (refine wpList_store_row rfl 38 _ _ rfl yb #[.int .i64 zop,.int .i64 zd,.int .i64 ze,.int .i64 za,.int .i64 zb0,.int .i64 zc,.int .i32 zimm,.slice zq zn zm,.int .i64 zsrc] rfl rfl 38 _ hz (by kernel_rfl) rfl (by rw[←Array.all_toList];rfl) ?_)
   exact HJ2.out ps ⟨ins.set k2 ⟨⟨yop,yd,ye,ya,yb0,yc,yimm,yargs⟩,.slice yq yn ym,ysrc⟩,.slice (some ⟨jg,0,none⟩) m jc,⟨op,a,b2,tl,.slice ra rn rc,imm⟩⟩ ⟨⟨zop,zd,ze,za,zb0,zc,zimm,zargs⟩,.slice zq zn zm,zsrc⟩ (by dsimp only;rw[List.length_set,HM.out];exact him) (HTD.out.setY (ZI (S:=fun q=>q=yb) rfl #[.int .i64 zop,.int .i64 zd,.int .i64 ze,.int .i64 za,.int .i64 zb0,.int .i64 zc,.int .i32 zimm,.slice zq zn zm,.int .i64 zsrc]) (ZO HTD.out.ybox #[.int .i64 zop,.int .i64 zd,.int .i64 ze,.int .i64 za,.int .i64 zb0,.int .i64 zc,.int .i32 zimm,.slice zq zn zm,.int .i64 zsrc]) HLZ.out)
  ·obtain⟨Y,hY⟩:∃ Y:PlV,Y=⟨⟨yop,yd,ye,ya,yb0,yc,yimm,yargs⟩,.slice yq yn ym,ysrc⟩:=⟨_,rfl⟩
   obtain⟨rr,hrr⟩:∃ rr,(if jc=i then some (⟨jg,0,none⟩:Addr) else some ⟨jg,i*9,none⟩)=rr:=⟨_,rfl⟩
   have HPL:=Lib.hid (show Pls wa1 (.slice (some ⟨jg,0,none⟩) m jc) ins from (HTS.out.x.ok HTS.out.old.size).1)
   have hcap:m≤jc∧jc≤9223372036854775807:=by
    rcases HPL.out with ⟨_,h1,_⟩|⟨_,_,cap,h1,h2,h3,_⟩
    ·cases h1;omega
    ·cases h1;unfold maxLen at h3;have:=HM.out;omega
   have HSD:=Lib.hid (src_drop (d:=jc-i) HPL.out (show i≤ins.length by rw[HM.out];omega) (show m-i=ins.length-i by rw[HM.out]) (show (if jc=i then some (⟨jg,0,none⟩:Addr) else some ⟨jg,0+i*9,none⟩)=rr by rw[Nat.zero_add];exact hrr) hcap.1 HM.out.symm)
   have HST:=Lib.hid (src_take HPL.out (show i≤ins.length by rw[HM.out];omega))
   have HSB:=Lib.hid (show ∀ q,(Value.slice rr (m-i) (jc-i)).ownBlock=some q→q<wa1.heap.size from fun q hq=>by
    have h1:=(World.ownsRow.lt (show wa1.ownsRow _ _ _ _ _ _ from HTS.out.x.insv) jg rfl).2
    rw[←hrr]at hq
    split at hq<;>(cases hq;exact h1))
   have HTB:=Lib.hid (show ∀ q,(Value.slice (some ⟨jg,0,none⟩) i jc).ownBlock=some q→q<wa1.heap.size from fun q hq=>by cases hq;exact (World.ownsRow.lt (show wa1.ownsRow _ _ _ _ _ _ from HTS.out.x.insv) jg rfl).2)
   have HD1:=Lib.hid (low_one fun z hz=>HTS.out.x.low z (List.mem_of_mem_drop (i:=i) hz))
   have HT1:=Lib.hid (low_one fun z hz=>HTS.out.x.low z (List.mem_of_mem_take (i:=i) hz))
   have HDL:=Lib.hid (show (ins.drop i).length=m-i from by rw[List.length_drop,HM.out])
   have HTL:=Lib.hid (show (ins.take i).length=i from by rw[List.length_take,HM.out];omega)
   have HYC:=Lib.hid (show (plcells Y).toArray=#[.int .i64 yop,.int .i64 yd,.int .i64 ye,.int .i64 ya,.int .i64 yb0,.int .i64 yc,.int .i32 yimm,.slice yq yn ym,.int .i64 ysrc] from by rw[hY];rfl)
   have HYLW:=Lib.hid (show LowPl w.heap.size wa1 Y from by rw[hY];exact HTS.out.y)
   have HYE:=Lib.hid hY
   clear hY
   go_upto_region 32 with fail
   refine Zh 6 rfl (by decide +kernel) (by decide +kernel) (by decide +kernel) (by decide)
    [Is (.agg #[.int .i64 yop,.int .i64 yd,.int .i64 ye,.int .i64 ya,.int .i64 yb0,.int .i64 yc,.int .i32 yimm,.slice yq yn ym,.int .i64 ysrc]),NewR #[.int .i64 yop,.int .i64 yd,.int .i64 ye,.int .i64 ya,.int .i64 yb0,.int .i64 yc,.int .i32 yimm,.slice yq yn ym,.int .i64 ysrc] 38 1 wa1.heap.size,Is (.pointer (some ⟨xb,0,none⟩)),Is (.slice (some ⟨jg,0,none⟩) m jc),Is (.int .i64 i),Is (.slice rr (m-i) (jc-i))]
    (by repeat (first | exact trivial | refine⟨Is.stable _,?_⟩ | refine⟨Zo.stable _ _,?_⟩ | refine⟨XV.stable _ _,?_⟩ | refine⟨NewR.stable _ _ _ _,?_⟩)) ⟨?_,?_,?_,?_,?_,?_,trivial⟩ ?_
   all_goals
    intro vs w9 hs hk
    try intro _
    have h9:=(HTS.out.keep hs).ybox
    have y0:w9.cell? ⟨yb,0,none⟩=some (.int .i64 yop):=h9.cell 0
    have y1:w9.cell? ⟨yb,1,none⟩=some (.int .i64 yd):=h9.cell 1
    have y2:w9.cell? ⟨yb,2,none⟩=some (.int .i64 ye):=h9.cell 2
    have y3:w9.cell? ⟨yb,3,none⟩=some (.int .i64 ya):=h9.cell 3
    have y4:w9.cell? ⟨yb,4,none⟩=some (.int .i64 yb0):=h9.cell 4
    have y5:w9.cell? ⟨yb,5,none⟩=some (.int .i64 yc):=h9.cell 5
    have y6:w9.cell? ⟨yb,6,none⟩=some (.int .i32 yimm):=h9.cell 6
    have y7:w9.cell? ⟨yb,7,none⟩=some (.slice yq yn ym):=h9.cell 7
    have y8:w9.cell? ⟨yb,8,none⟩=some (.int .i64 ysrc):=h9.cell 8
    have yl:=h9.lt
    have h9:=(HTS.out.keep hs).xbox
    have z0:w9.cell? ⟨xb,0,none⟩=some (.slice (some ⟨jg,0,none⟩) m jc):=h9.cell 0
    have zl:=h9.lt
    clear h9
    simp only[List.take,List.drop,putAll,Act.put,Zp,Zi,Zj,Is,List.setIfInBounds_toArray,List.set_cons_zero,List.set_cons_succ,Nat.reduceAdd]at hk ⊢
    try simp only[hk]
   ·go_wp2
    exact⟨_,rfl,rfl,Since.refl _⟩
   ·go_wp2
    exact⟨_,rfl,⟨_,rfl,HeapIs.new _ _ _,hs.size⟩,(Since.refl _).alloc _⟩
   ·go_wp2
    exact⟨_,rfl,rfl,Since.refl _⟩
   ·go_wp2
    exact⟨_,rfl,rfl,Since.refl _⟩
   ·go_wp2
    exact⟨_,rfl,rfl,Since.refl _⟩
   ·go_wp2
    exact⟨_,rfl,rfl,Since.refl _⟩
   obtain⟨gn,hgv,hgb,hgn⟩:NewR #[.int .i64 yop,.int .i64 yd,.int .i64 ye,.int .i64 ya,.int .i64 yb0,.int .i64 yc,.int .i32 yimm,.slice yq yn ym,.int .i64 ysrc] 38 1 wa1.heap.size (vs 1) w9:=hk.2.1
   simp only[hgv]
   have HGB:=Lib.hid hgb
   have HS9:=Lib.hid hs
   have HGN:=Lib.hid hgn
   clear y0 y1 y2 y3 y4 y5 y6 y7 y8 yl z0 zl hk hs hgv hgb hgn
   go_upto_region 33 with (at_builtin;refine wpList_append_src rfl _ _ 30 rfl wa1.heap.size 38 (.agg #[.int .i64 0,.int .i64 0,.int .i64 0,.int .i64 0,.int .i64 0,.int .i64 0,.int .i32 0,.slice none 0 0,.int .i64 0]) 9 88 Tryz.underlying30 (by kernel_rfl) rfl (by decide) (by decide) (.slice (some ⟨gn,0,none⟩) 1 1) (.slice rr (m-i) (jc-i)) 1 (m-i) ([Y].flatMap plcells) ((ins.drop i).flatMap plcells) rfl rfl (own_of_heap Zq [Y] 1 rfl (by decide) (by rw[show ([Y].flatMap plcells).toArray=(plcells Y).toArray from by simp,HYC.out];exact HGB.out) HGN.out) (HSD.out.keep HSB.out HS9.out) (by rw[Zax,HDL.out]) (by omega) HD1.out HS9.out.size ?_;intro v7 w7 ho7 ht7;have HS7:=Lib.hid (ht7.toSince HS9.out fun q hq e=>by have h1:=Option.some.inj e;have h2:=HGN.out;dsimp only at h1;omega);have HO7:=Lib.hid ho7;clear ho7 ht7)
   have HSV:=Lib.hid (show Vu w7 v7 (1+(m-i)) (([Y]++ins.drop i).flatMap plcells) from by
    have h:=own_src (show OwnRow plcells 9 38 wa1.heap.size w7 v7 ([Y]++ins.drop i) from by unfold OwnRow;rw[List.length_append,HDL.out,List.flatMap_append];exact HO7.out)
    rw[List.length_append,HDL.out]at h
    exact h)
   have HVB:=Lib.hid (fun q hq=>(World.ownsRow.lt HO7.out q hq).2)
   obtain⟨va,vc,hvv⟩:=Ze HO7.out
   subst hvv
   have h9:=(HTS.out.keep HS7.out).xbox
   have z0:w7.cell? ⟨xb,0,none⟩=some (.slice (some ⟨jg,0,none⟩) m jc):=h9.cell 0
   have zl:=h9.lt
   have zf:=h9.frozen
   clear h9
   have HV1:=Lib.hid (show ∀ u∈([Y]++ins.drop i).flatMap plcells,u.oneCell'=true from low_one fun z hz=>by
    rcases List.mem_append.1 hz with h|h
    ·rw[List.mem_singleton.1 h];exact HYLW.out
    ·exact HTS.out.x.low z (List.mem_of_mem_drop h))
   go_wp2_with (at_builtin;first | (refine wpList_append_src rfl _ _ 30 rfl w7.heap.size 38 (.agg #[.int .i64 0,.int .i64 0,.int .i64 0,.int .i64 0,.int .i64 0,.int .i64 0,.int .i32 0,.slice none 0 0,.int .i64 0]) 9 88 Tryz.underlying30 (by kernel_rfl) rfl (by decide) (by decide) (.slice (some ⟨w7.heap.size,0,none⟩) 0 0) (.slice (some ⟨jg,0,none⟩) i jc) 0 i [] ((ins.take i).flatMap plcells) rfl rfl ((IsNilOf.new (Nat.le_refl _)).owns 9) (HST.out.keep HTB.out (HS7.out.trans ((Since.refl _).alloc _))) (by rw[Zax,HTL.out]) (by omega) HT1.out (by simp) ?_;intro v8 w8 ho8 ht8;have HS8:=Lib.hid (ht8.toSince ((Since.refl w7).alloc _) fun q hq e=>by cases e;exact absurd hq (Nat.lt_irrefl _));have HO8:=Lib.hid ho8;clear ho8 ht8) | (refine wpList_append_src rfl _ _ 30 rfl w7.heap.size 38 (.agg #[.int .i64 0,.int .i64 0,.int .i64 0,.int .i64 0,.int .i64 0,.int .i64 0,.int .i32 0,.slice none 0 0,.int .i64 0]) 9 88 Tryz.underlying30 (by kernel_rfl) rfl (by decide) (by decide) v8 (.slice va (1+(m-i)) vc) (0+i) (1+(m-i)) _ (([Y]++ins.drop i).flatMap plcells) rfl rfl HO8.out (HSV.out.keep HVB.out HS8.out) (by rw[Zax,List.length_append,HDL.out];rfl) (by omega) HV1.out HS8.out.size ?_;intro v9 w10 ho9 ht9;have HS10:=Lib.hid (ht9.toSince HS8.out fun q hq e=>by have:=(World.ownsRow.lt HO8.out q e).1;omega);have HO9:=Lib.hid ho9;clear ho9 ht9 z0 zl zf;have h9:=(HTS.out.keep (HS7.out.trans HS10.out)).xbox;have z0:w10.cell? ⟨xb,0,none⟩=some (.slice (some ⟨jg,0,none⟩) m jc):=h9.cell 0;have zl:=h9.lt;have zf:=h9.frozen;clear h9;obtain⟨v9a,v9c,hv9⟩:=Ze HO9.out;subst hv9))
   have HT10:=Lib.hid (HTS.out.keep (HS7.out.trans HS10.out))
   have HLN:=Lib.hid (show (ins.take i++([Y]++ins.drop i)).length=m+1 from by rw[List.length_append,HTL.out,List.length_append,HDL.out,List.length_singleton];omega)
   have hrow9:OwnRow plcells 9 38 w7.heap.size w10 (.slice v9a (i+(1+(m-i))) v9c) (ins.take i++([Y]++ins.drop i)):=by
    unfold OwnRow
    rw[HLN.out,List.flatMap_append]
    have h:=HO9.out
    rw[List.nil_append,Nat.zero_add]at h
    rwa [show m+1=i+(1+(m-i)) from by omega]
   have hbig:∀ q,(Value.slice v9a (i+(1+(m-i))) v9c).ownBlock=some q→wa1.heap.size≤q:=fun q hq=>Nat.le_trans HS7.out.size (World.ownsRow.lt (show w10.ownsRow _ _ _ _ _ _ from hrow9) q hq).1
   exact HJ2.out ps ⟨ins.take i++([Y]++ins.drop i),.slice v9a (i+(1+(m-i))) v9c,⟨op,a,b2,tl,.slice ra rn rc,imm⟩⟩ _ (by dsimp only;rw[HLN.out];omega) (HT10.out.setX ((Zb.refl (fun q=>q=xb) w10).setCell (p:=⟨xb,0,none⟩) rfl _) (HT10.out.xbox.set 0 _) ⟨XX (show w10.ownsRow _ _ _ _ _ _ from hrow9) (Nat.le_trans HTS.out.old.size HS7.out.size),HT10.out.x.tov,fun z hz=>by
    rcases List.mem_append.1 hz with h|h
    ·exact HT10.out.x.low z (List.mem_of_mem_take h)
    rcases List.mem_append.1 h with h|h
    ·rw[List.mem_singleton.1 h];exact⟨HYLW.out.1.keep (HS7.out.trans HS10.out),HYLW.out.2⟩
    ·exact HT10.out.x.low z (List.mem_of_mem_drop h),by dsimp only;rw[HLN.out];omega⟩ (fun q hq=>⟨fun e=>by have h1:=hbig q hq;have h2:=HTS.out.ybox.lt;omega,fun t z hz hne e=>by have h1:=hbig q hq;have h2:=(World.ownsRow.lt (show wa1.ownsRow _ _ _ _ _ _ from (HTS.out.each t z hz hne).1.insv) q e).2;omega⟩) (fun q hq t z hz hne e=>(HT10.out.each t z hz hne).2.2 q e hq))
  ·have h9:=HTS.out.xbox
   have z2:wa1.cell? ⟨xb,2,none⟩=some (.int .i64 a):=h9.cell 2
   have zl:=h9.lt
   have zf:=h9.frozen
   clear h9
   go_wp2_with fail
   exact HJ2.out ps ⟨ins,.slice (some ⟨jg,0,none⟩) m jc,⟨op,(nn:Int) % 6-1,b2,tl,.slice ra rn rc,imm⟩⟩ _ (by dsimp only;rw[HM.out];exact him) (HTS.out.setX ((Zb.refl (fun q=>q=xb) wa1).setCell (p:=⟨xb,2,none⟩) rfl _) (HTS.out.xbox.set 2 _) ⟨HTS.out.x.insv,HTS.out.x.tov,HTS.out.x.low,HTS.out.x.few⟩ (fun q hq=>⟨HTS.out.apart.2.2 q hq,fun t z hz hne e=>((HTS.out.each t z hz hne).2.1 q e).1 hq⟩) (fun q hq t z hz hne e=>(HTS.out.each t z hz hne).2.2 q e hq))
  ·by_cases hr0:rn=0
   ·subst hr0
    have h9:=HTS.out.xbox
    have z4:wa1.cell? ⟨xb,4,none⟩=some (.slice ra 0 rc):=h9.cell 4
    have zl:=h9.lt
    clear h9
    go_wp2_with fail
    exact HJ2.out ps _ _ (by dsimp only;rw[HM.out];exact him) HTS.out
   ·obtain⟨tg,tcap,htv,htl,htc,htf⟩:=own_where1 (n:=rn) (show wa1.ownsRow w.heap.size 3 1 (.slice ra rn rc) rn (tl.map (Value.int .i64)) from by have h:=HTS.out.x.tov;dsimp only at h;rw[HRN.out]at h;exact h) (by omega)
    cases htv
    obtain⟨j,hj,hjm⟩:∃ j:Nat,(nn:Int) % (rn:Int)=(j:Int)∧j<rn:=⟨nn % rn,by push_cast;rfl,Nat.mod_lt _ (by omega)⟩
    obtain⟨v,hv⟩:∃ v:Int,(nn:Int) % ((n:Int)+1)=v:=⟨_,rfl⟩
    have hj2:(nn:Int).tmod (rn:Int)=(j:Int):=by rw[Int.tmod_eq_emod_of_nonneg (by omega)];exact hj
    have hv2:(nn:Int).tmod ((n:Int)+1)=v:=by rw[Int.tmod_eq_emod_of_nonneg (by omega)];exact hv
    have HN0:=Lib.hid (show ((n:Int)+1==0)=false from beq_eq_false_iff_ne.2 (by omega))
    have HR0:=Lib.hid (show ((rn:Int)==0)=false from beq_eq_false_iff_ne.2 (by omega))
    have HJM:=Lib.hid hjm
    have HJ1:=Lib.hid (And.intro hj hj2)
    have HV:=Lib.hid (And.intro hv hv2)
    obtain⟨u0,hu0⟩:∃ u,tl[j]? = some u:=⟨_,List.getElem?_eq_getElem (by rw[HRN.out];exact hjm)⟩
    have HTC:=Lib.hid (show wa1.cell? ⟨tg,j,none⟩=some (.int .i64 u0) from htc j _ (by rw[List.getElem?_map,hu0];rfl))
    clear htc htf hu0 hj hv hj2 hv2
    have hr1:(0:Int)<(rn:Int):=by omega
    have h9:=HTS.out.xbox
    have z4:wa1.cell? ⟨xb,4,none⟩=some (.slice (some ⟨tg,0,none⟩) rn rc):=h9.cell 4
    have zl:=h9.lt
    clear h9
    go_upto_region 38 with fail
    clear z4 zl hr1 hr0 hjm
    refine Zh 15 rfl (by decide +kernel) (by decide +kernel) (by decide +kernel) (by decide)
     [Is (.pointer (some ⟨xb,1,none⟩)),Is (.pointer (some ⟨xb,4,none⟩)),Is (.slice (some ⟨tg,0,none⟩) rn rc),Is (.int .i64 nn),Is (.pointer (some ⟨xb,1,none⟩)),Is (.pointer (some ⟨xb,4,none⟩)),Is (.slice (some ⟨tg,0,none⟩) rn rc),Is (.int .i64 rn),Is (.int .i64 j),Is (.int .i64 nn),Is (.pointer (some ⟨pb,3,none⟩)),Is (.slice (some ⟨g,0,none⟩) n c),Is (.int .i64 n),Is (.int .i64 ((n:Int)+1)),Is (.int .i64 v)]
     (by repeat (first | exact trivial | refine⟨Is.stable _,?_⟩ | refine⟨Zo.stable _ _,?_⟩ | refine⟨XV.stable _ _,?_⟩)) ⟨?_,?_,?_,?_,?_,?_,?_,?_,?_,?_,?_,?_,?_,?_,?_,trivial⟩ ?_
    all_goals
     intro vs w9 hs hk
     try intro _
     simp only[List.take,List.drop,putAll,Act.put,Zp,Zi,Zj,Is,List.setIfInBounds_toArray,List.set_cons_zero,List.set_cons_succ,Nat.reduceAdd]at hk ⊢
     try simp only[hk]
    ·go_wp2
     exact⟨_,rfl,rfl,Since.refl _⟩
    ·go_wp2
     exact⟨_,rfl,rfl,Since.refl _⟩
    ·have h9:=(HTS.out.keep hs).xbox
     have z4:w9.cell? ⟨xb,4,none⟩=some (.slice (some ⟨tg,0,none⟩) rn rc):=h9.cell 4
     have zl:=h9.lt
     clear h9
     go_wp2
     exact⟨_,rfl,rfl,Since.refl _⟩
    ·go_wp2
     exact⟨_,rfl,rfl,Since.refl _⟩
    ·go_wp2
     exact⟨_,rfl,rfl,Since.refl _⟩
    ·go_wp2
     exact⟨_,rfl,rfl,Since.refl _⟩
    ·have h9:=(HTS.out.keep hs).xbox
     have z4:w9.cell? ⟨xb,4,none⟩=some (.slice (some ⟨tg,0,none⟩) rn rc):=h9.cell 4
     have zl:=h9.lt
     clear h9
     go_wp2
     exact⟨_,rfl,rfl,Since.refl _⟩
    ·go_wp2
     exact⟨_,rfl,rfl,Since.refl _⟩
    ·have hj:=HJ1.out.1
     have hj2:=HJ1.out.2
     have hrn0:=HR0.out
     go_wp2
     exact⟨_,rfl,rfl,Since.refl _⟩
    ·go_wp2
     exact⟨_,rfl,rfl,Since.refl _⟩
    ·go_wp2
     exact⟨_,rfl,rfl,Since.refl _⟩
    ·have h9:=(HTS.out.keep hs).pbox
     have p3:=h9.cell 3
     have pl:=h9.lt
     clear h9
     go_wp2
     exact⟨_,rfl,rfl,Since.refl _⟩
    ·go_wp2
     exact⟨_,rfl,rfl,Since.refl _⟩
    ·go_wp2
     exact⟨_,rfl,rfl,Since.refl _⟩
    ·have hv:=HV.out.1
     have hv2:=HV.out.2
     have hn0:=HN0.out
     go_wp2
     exact⟨_,rfl,rfl,Since.refl _⟩
    have HS9:=Lib.hid hs
    have HT9:=Lib.hid (HTS.out.keep hs)
    have hc:w9.cell? ⟨tg,j,none⟩=some (.int .i64 u0):=(hs.cell (p:=⟨tg,j,none⟩) htl).trans HTC.out
    have hl:tg<w9.heap.size:=Nat.lt_of_lt_of_le htl hs.size
    obtain⟨_,_,hv3,_,_,hf⟩:=own_where1 (n:=rn) (show w9.ownsRow w.heap.size 3 1 (.slice (some ⟨tg,0,none⟩) rn rc) rn (tl.map (Value.int .i64)) from by have h:=HT9.out.x.tov;dsimp only at h;rw[HRN.out]at h;exact h) (by omega)
    cases hv3
    clear hk hs
    have hjm:=HJM.out
    go_wp2_with fail
    have hr:(w9.setCell ⟨tg,j,none⟩ (.int .i64 v)).ownsRow w.heap.size 3 1 (.slice (some ⟨tg,0,none⟩) rn rc) (tl.set j v).length ((tl.set j v).map (Value.int .i64)):=by
     have h:=ZV (show w9.ownsRow w.heap.size 3 1 (.slice (some ⟨tg,0,none⟩) rn rc) rn (tl.map (Value.int .i64)) from by have h:=HT9.out.x.tov;dsimp only at h;rw[HRN.out]at h;exact h) j (.int .i64 v)
     rw[List.map_set,List.length_set,HRN.out]
     exact h
    exact HJ2.out ps ⟨ins,.slice (some ⟨jg,0,none⟩) m jc,⟨op,a,b2,tl.set j v,.slice (some ⟨tg,0,none⟩) rn rc,imm⟩⟩ _ (by dsimp only;rw[HM.out];exact him) (HT9.out.setT ((Zb.refl (fun q=>(Value.slice (some ⟨tg,0,none⟩) rn rc).ownBlock=some q) w9).setCell (p:=⟨tg,j,none⟩) rfl _) hr)
  ·have hz:=HTS.out.ybox
   go_wp2_with (refine wpList_store_row rfl 38 _ _ rfl yb #[.int .i64 1,.int .i64 ((nn:Int) % 4),.int .i64 0,.int .i64 ((nn:Int) / 4 % 4),.int .i64 0,.int .i64 0,.int .i32 0,.slice none 0 0,.int .i64 (-1)] rfl rfl 38 _ hz (by kernel_rfl) rfl (by rw[←Array.all_toList];rfl) ?_)
   exact HJ2.out ps _ ⟨⟨1,(nn:Int) % 4,0,(nn:Int) / 4 % 4,0,0,0,[]⟩,.slice none 0 0,-1⟩ (by dsimp only;rw[HM.out];exact him) (HTS.out.setY (ZI (S:=fun q=>q=yb) rfl #[.int .i64 1,.int .i64 ((nn:Int) % 4),.int .i64 0,.int .i64 ((nn:Int) / 4 % 4),.int .i64 0,.int .i64 0,.int .i32 0,.slice none 0 0,.int .i64 (-1)]) (ZO HTS.out.ybox #[.int .i64 1,.int .i64 ((nn:Int) % 4),.int .i64 0,.int .i64 ((nn:Int) / 4 % 4),.int .i64 0,.int .i64 0,.int .i32 0,.slice none 0 0,.int .i64 (-1)]) ⟨.inl ⟨none,rfl,rfl⟩,⟨by show (-2147483648:Int)≤0;decide,by show (0:Int)≤2147483647;decide,by show 0≤1000;decide⟩,fun q hq=>by cases hq⟩)
  ·have h9:=HTS.out.pbox
   have p2:=h9.cell 2
   have pl:=h9.lt
   have pf:=h9.frozen
   clear h9
   go_wp2_with fail
   exact HJ2.out _ _ _ (by dsimp only;rw[HM.out];exact him) (HTS.out.setP _)
 clear aK1 HAK
 by_cases hk0:kn=0
 ·subst hk0
  have HX4:=Lib.hid (HTX.out.keep (show Since w4 (w4.alloc (.cells #[.int .i64 3,.int .i64 0,.int .i64 0,.int .i64 0,.int .i64 0,.int .i64 0,.int .i32 3,.slice none 0 0,.int .i64 (-1)] 38)) from (Since.refl _).alloc _))
  have h9:=HTX.out.xbox
  have z0:w4.cell? ⟨xb,0,none⟩=some (.slice ia 0 ic):=h9.cell 0
  have zl:=h9.lt
  have zf:=h9.frozen
  clear h9
  have HNB:=Lib.hid (HeapIs.new w4 #[.int .i64 3,.int .i64 0,.int .i64 0,.int .i64 0,.int .i64 0,.int .i64 0,.int .i32 3,.slice none 0 0,.int .i64 (-1)] 38)
  have HI0:=Lib.hid (show ins0=[] from List.length_eq_zero_iff.1 HKN.out)
  have HLL:=Lib.hid (show ∀ (w9:World),LowPl w.heap.size w9 ⟨⟨3,0,0,0,0,0,3,[]⟩,.slice none 0 0,-1⟩ from fun w9=>⟨.inl ⟨none,rfl,rfl⟩,⟨by show (-2147483648:Int)≤3;decide,by show (3:Int)≤2147483647;decide,by show 0≤1000;decide⟩,fun q hq=>by cases hq⟩)
  go_wp2_with (at_builtin;(refine ZC (base:=w.heap.size) plcells 9 Zq (by decide) rfl _ _ 30 rfl 38 (.agg #[.int .i64 0,.int .i64 0,.int .i64 0,.int .i64 0,.int .i64 0,.int .i64 0,.int .i32 0,.slice none 0 0,.int .i64 0]) 88 Tryz.underlying30 (by kernel_rfl) rfl (.slice ia 0 ic) ins0 ⟨⟨3,0,0,0,0,0,3,[]⟩,.slice none 0 0,-1⟩ w4.heap.size 1 38 rfl rfl HX4.out.x.insv HNB.out (low_one1 (HLL.out w4)) (by rw[HKN.out];decide) (by rw[HKN.out];decide) HX4.out.old.size ?_);intro v5 w5 ho5 ht5 hn5;obtain⟨a5,c5,hv5⟩:=OwnRow.shape ho5;rw[List.length_append,HKN.out,List.length_singleton]at hv5;subst hv5;(have HG5:=Lib.hid (HX4.out.grow ht5 ho5 hn5 (fun z hz=>by rw[HI0.out]at hz;rw[List.mem_singleton.1 hz];exact HLL.out _) (by rw[HI0.out];decide)));(have HX5:=Lib.hid (HX4.out.xbox.turn ht5 ((Kin.row (show (w4.alloc _).ownsRow _ _ _ _ _ _ from HX4.out.x.insv)).heap HX4.out.xbox (by decide))));clear ho5 ht5 hn5 z0 zl zf;have h9:=HX5.out;have z0:w5.cell? ⟨xb,0,none⟩=some (.slice ia 0 ic):=h9.cell 0;have zl:=h9.lt;have zf:=h9.frozen;clear h9)
  exact HJ.out _ (by dsimp only;rw[HI0.out];decide) (by dsimp only;rw[HI0.out];decide) HG5.out
 ·have h9:=HTX.out.xbox
  have z0:w4.cell? ⟨xb,0,none⟩=some (.slice ia kn ic):=h9.cell 0
  have zl:=h9.lt
  clear h9
  have hkz:((kn:Int)==0)=false:=beq_eq_false_iff_ne.2 (by omega)
  go_wp2_with fail
  exact HJ.out _ (by dsimp only;rw[HKN.out];omega) (by dsimp only;rw[HKN.out];omega) HTX.out
end Go.Proofs.YtimpddecdodddaaGreat