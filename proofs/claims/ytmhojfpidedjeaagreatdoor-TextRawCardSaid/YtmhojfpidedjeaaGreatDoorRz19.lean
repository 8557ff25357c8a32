/- The document's line: the walk. -/
import Derived.Test.YtmhojfpidedjeaaGreatDoorRz18
namespace Go.Proofs.YtmhojfpidedjeaaGreatDoor
open Go.RowKit
set_option linter.unusedVariables false
def StAns (r:Except Int PSt) (e params pl:Int) (bl:List FBlk):Prop:=match r with
 | .error n=>e=n∧n≠0
 | .ok s=>e=0∧s=⟨params,bl.map FBlk.d,pl⟩
def RLnQ (w0:World) (pb:Nat) (params pl:Int) (bv:Value) (bl:List FBlk) (l:List ByteArray) (w:World) (x:Ending) (w':World):Prop:=
 x=.returned (.tuple #[])∧∃ params' pl' e' bv' bl',RPa w0 pb params' pl' e' bv' bl' w'∧Turn (PaOwn pb bv bl) w w'∧StAns (stepSt ⟨params,bl.map FBlk.d,pl⟩ l) e' params' pl' bl'
theorem RowIn.rest {α:Type} {f : α→List Value} {sz:Nat} {p : World→α→Prop} {w : World} {b off n c:Nat} {x : α} {l : List α} (h:RowIn f sz p w (.slice (some ⟨b,off,none⟩) n c) (x::l)):RowIn f sz p w (.slice (some ⟨b,off+sz,none⟩) (n-1) (c-1)) l:=by
 rcases h with ⟨_,_,h2⟩|⟨b',off',cap,h1,h2,h3,h4,h5⟩
 ·cases h2
 ·cases h1
  refine .inr ⟨b,off+sz,_,rfl,by rw[List.length_cons]at h2;omega,by omega,h4,fun j y hj=>?_⟩
  obtain⟨h6,h7⟩:=h5 (j+1) y (by simpa using hj)
  exact⟨fun t ht=>by rw[←h6 t ht];congr 2;rw[Nat.succ_mul];omega,h7⟩
theorem wFunc_list:wFunc.toList=[102,117,110,99]:=by kernel_rfl
theorem wBlock_list:wBlock.toList=[98,108,111,99,107]:=by kernel_rfl
theorem wPhi_list:wPhi.toList=[112,104,105]:=by kernel_rfl
theorem not_func {f : ByteArray} (h:¬ f=wFunc):(f.toList==[102,117,110,99])=false:=by have:=(Lib.bytes_beq_false_iff f wFunc).2 h;rwa [wFunc_list]at this
theorem not_block {f : ByteArray} (h:¬ f=wBlock):(f.toList==[98,108,111,99,107])=false:=by have:=(Lib.bytes_beq_false_iff f wBlock).2 h;rwa [wBlock_list]at this
theorem not_phi {f : ByteArray} (h:¬ f=wPhi):(f.toList==[112,104,105])=false:=by have:=(Lib.bytes_beq_false_iff f wPhi).2 h;rwa [wPhi_list]at this
theorem is_func {f : ByteArray} (h:f=wFunc):(f.toList==[102,117,110,99])=true:=by have:=(Lib.bytes_beq_iff f wFunc).2 h;rwa [wFunc_list]at this
theorem is_block {f : ByteArray} (h:f=wBlock):(f.toList==[98,108,111,99,107])=true:=by have:=(Lib.bytes_beq_iff f wBlock).2 h;rwa [wBlock_list]at this
theorem is_phi {f : ByteArray} (h:f=wPhi):(f.toList==[112,104,105])=true:=by have:=(Lib.bytes_beq_iff f wPhi).2 h;rwa [wPhi_list]at this
theorem insSt_pl {s t:PSt} {op:Int} {l : List ByteArray} (h:insSt s op l=.ok t):t.pl=3:=by
 unfold insSt at h
 split at h
 ·split at h
  ·cases h;rfl
  ·cases h
 ·cases h
theorem termSt_pl {s t:PSt} {k : Int} {l : List ByteArray} (h:termSt s k l=.ok t):t.pl=1:=by
 unfold termSt at h
 split at h
 ·split at h
  ·cases h;rfl
  ·cases h
 ·cases h
theorem st_ans {r : Except Int PSt} {e params pl:Int} {bl:List FBlk} (hpl:∀ s,r=.ok s→s.pl=pl) (h:PaAns r e params bl):StAns r e params pl bl:=by
 cases r with
 | error n=>exact h
 | ok s=>obtain⟨h1,h2,h3⟩:=h;exact⟨h1,by obtain⟨a,b,c⟩:=s;have:=hpl _ rfl;simp at h2 h3 this;rw[h2,h3,this]⟩
theorem step_func {s : PSt} {f : ByteArray} {r : List ByteArray} (h:f=wFunc):stepSt s (f::r)=if s.pl=0∧r.length=1 then (if areNums r then .ok ⟨(numsW r).getD 0 0,s.blocks,1⟩ else .error 71) else .error 70:=if_pos h
theorem step_block {s : PSt} {f : ByteArray} {r : List ByteArray} (h1:¬ f=wFunc) (h:f=wBlock):stepSt s (f::r)=if s.pl=1∧r.length=1 then (if areNums r then (if (numsW r).getD 0 0=s.blocks.length then .ok ⟨s.params,s.blocks++[zeroBlk],2⟩ else .error 70) else .error 71) else .error 70:=(if_neg h1).trans (if_pos h)
theorem number_le (s:ByteArray):0≤numberF s∧numberF s≤18:=by
 have:=idx_bounds s
 unfold numberF;omega
theorem idx_all (l:List ByteArray) (s:ByteArray) : -1≤Lib.idxOfS l s∧Lib.idxOfS l s<l.length∨l.length=0:=by
 by_cases h0:l.length=0
 ·exact .inr h0
 refine .inl ?_
 by_cases h:∃ k,k<l.length∧l.getD k ByteArray.empty=s∧∀ j,j<k→l.getD j ByteArray.empty≠s
 ·obtain⟨k,h1,h2,h3⟩:=h
  have:=Lib.idxFromS_hit s l k 0 h1 h2 h3
  unfold Lib.idxOfS
  omega
 ·have hne:∀ k,k<l.length→l.getD k ByteArray.empty≠s:=by
   intro k
   induction k using Nat.strongRecOn with
   | _ k ih=>exact fun hk he=>h ⟨k,hk,he,fun j hj=>ih j hj (by omega)⟩
  have:=Lib.idxOfS_miss l l.length s hne
  rw[List.take_length]at this
  omega
theorem kind_le (s:ByteArray):0≤kindF s∧kindF s≤5:=by
 have h:=idx_all termNames s
 have h5:termNames.length=5:=rfl
 rw[h5]at h
 unfold kindF;omega
section
variable {w0:World} {pb:Nat} {params pl:Int} {bv:Value} {bl:List FBlk}
theorem rphi_any (w:World) (h:RPa w0 pb params pl 0 bv bl w) (v:Value) (r:List ByteArray) (hl:StrsIn w v r) (hst:Stays (PaOwn pb bv bl) w v) (hn:r.length≤400000) (b:FBlk) (hb:bl[bl.length-1]? = some b) (hb1:bl.length≤1000000) (hb2:b.phis.length≤1000000):Calls Tryz.prog 91 #[.pointer (some ⟨pb,0,none⟩),v] w (PhiQ w0 pb params pl bv bl r w):=by
 cases r with
 | nil =>
  obtain⟨a,c,e1,_⟩:=RowIn.shape hl
  obtain rfl:v=.slice a 0 c:=e1
  exact rphi_nil w h a c
 | cons d r=>exact rphi_cons w h v d r hl hst (by rw[List.length_cons]at hn;omega) b hb hb1 hb2
theorem phiSt_pl {s t:PSt} {l : List ByteArray} (h:phiSt s l=.ok t):t.pl=s.pl:=by
 unfold phiSt at h
 split at h
 ·cases h
 ·split at h
  ·split at h
   ·cases h;rfl
   ·cases h
  ·cases h
set_option maxHeartbeats 2000000 in
set_option maxRecDepth 100000 in
theorem rline_any (w:World) (h:RPa w0 pb params pl 0 bv bl w) (hpl:0≤pl∧pl≤3∧(2≤pl→bl≠[])) (v:Value) (f:ByteArray) (r:List ByteArray) (hl:StrsIn w v (f::r)) (hst:Stays (PaOwn pb bv bl) w v) (hn:r.length≤400000) (hb1:bl.length≤900000) (hbs:∀ b,bl[bl.length-1]? = some b→b.phis.length≤1000000∧b.ins.length≤1000000):Calls Tryz.prog 53 #[.pointer (some ⟨pb,0,none⟩),v] w (RLnQ w0 pb params pl bv bl (f::r) w):=by
 obtain⟨a,c,e1,_⟩:=RowIn.shape hl
 obtain⟨n,hnn⟩:∃ n,r.length=n:=⟨_,rfl⟩
 rw[List.length_cons,hnn]at e1
 subst e1
 obtain⟨b0,off,x,ha,hb0,hx,hc0,hxs⟩:=StrsIn.at hl (k:=0) (by simp)
 obtain rfl:f=x:=by simpa using hx
 subst ha
 rw[Nat.add_zero]at hc0
 have hcap:n+1≤c:=by
  rcases hl with ⟨_,_,h2⟩|⟨_,_,_,h1,h2,_⟩
  ·cases h2
  ·cases h1;rw[List.length_cons,hnn]at h2;exact h2
 have H:=Lib.hid h
 have HST:=Lib.hid hst
 have HPL:=Lib.hid hpl
 have HBS:=Lib.hid hbs
 have HNN:=Lib.hid hnn
 rw[hnn]at hn
 have HL:=Lib.hid hl
 obtain⟨op,hop⟩:∃ op,numberF f=op:=⟨_,rfl⟩
 obtain⟨kd,hkd⟩:∃ kd,kindF f=kd:=⟨_,rfl⟩
 have hop1:=number_le f
 have hkd1:=kind_le f
 rw[hop]at hop1
 rw[hkd]at hkd1
 have hnum:=fun w=>rnumber_any f w
 rw[hop]at hnum
 have HNUM:=Lib.hid hnum
 have HOP:=Lib.hid hop
 have HKD:=Lib.hid hkd
 have hk2:∀ y,1+Lib.idxOfS termNames f=y→y=kd:=fun y hy=>by rw[←hy,←hkd];rfl
 have HK2:=Lib.hid hk2
 clear h hl hst hnn hpl hbs hop hkd hnum hk2 hx hxs
 go_enter Tryz.func53,Tryz.ntmps53
 go_upto_region 1 with (fail)
 rename_i K1 aK1
 have HAK:=Lib.hid aK1
 have HJ:Hid (∀ {u1 u2 u3 u6 u7 u8 u9 u10 u11 u12 u13 u14 u15 u16 u17 u18 u19 u20 u21 u22 u23 u24 u25 u26 u27 u28 u29 u30 u31 u32 u33 u34 u35 u36 u37 u38 u39 u40 u41 u42 u43 u44 u45 u46 u47 u48 u49 u50 u51 u52 u53 u54 u55 u56 u57 u58 u59 u60 u61 u62 u63 u64 u65 u66 u67 u68 u69 u70 u71 u72 u73 u74 u75 u76 u77 u78 u79 u80 u81 u82 u83 u84 u85 u86 u87 u88 u89 u90 u91 u92 u93 u94 u95 u96 u97 u98 u99 u100 u101 u102 u103 u104 u105 u106 u107 u108 u109 u110 u111 u112 u113 u114 u115 u116 u117 u118 u119 u120 u121 u122 u123 u124 u125 u126 u127 u128 u129 u130 u131 u132 u133 u134 u135 u136 u137 u138 u139 u140 u141 u142 u143 u144 u145 u146 u147 u148 u149 u150 u151 u152 u153 u154 u155 u156 u157 u158 u159 u160 u161 u162 u163 u164 u165 u166 u167 u168 u169 u170 u171 u172 u173 u174 u175 u176 u177 u178 u179:Value} (ra:Option Addr) (rc:Nat),StrsIn w (.slice ra n rc) r→Stays (PaOwn pb bv bl) w (.slice ra n rc)→K1 ⟨(Value.pointer (some ⟨pb,0,none⟩)::u1::u2::u3::Value.string f::Value.slice ra n rc::u6::u7::u8::u9::u10::u11::u12::u13::u14::u15::u16::u17::u18::u19::u20::u21::u22::u23::u24::u25::u26::u27::u28::u29::u30::u31::u32::u33::u34::u35::u36::u37::u38::u39::u40::u41::u42::u43::u44::u45::u46::u47::u48::u49::u50::u51::u52::u53::u54::u55::u56::u57::u58::u59::u60::u61::u62::u63::u64::u65::u66::u67::u68::u69::u70::u71::u72::u73::u74::u75::u76::u77::u78::u79::u80::u81::u82::u83::u84::u85::u86::u87::u88::u89::u90::u91::u92::u93::u94::u95::u96::u97::u98::u99::u100::u101::u102::u103::u104::u105::u106::u107::u108::u109::u110::u111::u112::u113::u114::u115::u116::u117::u118::u119::u120::u121::u122::u123::u124::u125::u126::u127::u128::u129::u130::u131::u132::u133::u134::u135::u136::u137::u138::u139::u140::u141::u142::u143::u144::u145::u146::u147::u148::u149::u150::u151::u152::u153::u154::u155::u156::u157::u158::u159::u160::u161::u162::u163::u164::u165::u166::u167::u168::u169::u170::u171::u172::u173::u174::u175::u176::u177::u178::u179::[]).toArray,[]⟩ w):=by
  clear aK1
  apply Lib.hid
  intro u1 u2 u3 u6 u7 u8 u9 u10 u11 u12 u13 u14 u15 u16 u17 u18 u19 u20 u21 u22 u23 u24 u25 u26 u27 u28 u29 u30 u31 u32 u33 u34 u35 u36 u37 u38 u39 u40 u41 u42 u43 u44 u45 u46 u47 u48 u49 u50 u51 u52 u53 u54 u55 u56 u57 u58 u59 u60 u61 u62 u63 u64 u65 u66 u67 u68 u69 u70 u71 u72 u73 u74 u75 u76 u77 u78 u79 u80 u81 u82 u83 u84 u85 u86 u87 u88 u89 u90 u91 u92 u93 u94 u95 u96 u97 u98 u99 u100 u101 u102 u103 u104 u105 u106 u107 u108 u109 u110 u111 u112 u113 u114 u115 u116 u117 u118 u119 u120 u121 u122 u123 u124 u125 u126 u127 u128 u129 u130 u131 u132 u133 u134 u135 u136 u137 u138 u139 u140 u141 u142 u143 u144 u145 u146 u147 u148 u149 u150 u151 u152 u153 u154 u155 u156 u157 u158 u159 u160 u161 u162 u163 u164 u165 u166 u167 u168 u169 u170 u171 u172 u173 u174 u175 u176 u177 u178 u179 ra rc hr hrs
  refine HAK.out _ _ ?_
  have HR:=Lib.hid hr
  have HRS:=Lib.hid hrs
  clear hr hrs
  go_wp2_with fail
  refine (HNUM.out w).mono ?_
  rintro e1 w1 ⟨rfl,hs1⟩
  have hs1:Since w w1:=hs1
  have HS1:=Lib.hid hs1
  clear hs1 hc0
  go_wp2_with fail
  refine (rterms_any w1).mono ?_
  rintro e2 w2 ⟨rfl,hst2,hs2⟩
  have HS2:=Lib.hid (HS1.out.trans hs2)
  have HP3:=Lib.hid (rplace_any _ 5 termNames rfl (by decide) f w2 hst2)
  clear hst2 hs2
  go_wp2_with fail
  refine HP3.out.mono ?_
  rintro e3 w3 ⟨rfl,hs3⟩
  have hs3:Since w2 w3:=hs3
  have HS3:=Lib.hid (HS2.out.trans hs3)
  clear hs3 HP3
  obtain⟨id,hid⟩:∃ id,Lib.idxOfS termNames f=id:=⟨_,rfl⟩
  have hid2:1+id=kd:=HK2.out _ (by rw[hid])
  rw[hid]
  subst hid2
  clear hid
  have hp3:=H.out.keep HS3.out
  have c1:w3.cell? ⟨pb,1,none⟩=some bv:=hp3.cell 1
  have c2:w3.cell? ⟨pb,2,none⟩=some (.int .i64 pl):=hp3.cell 2
  have c3:w3.cell? ⟨pb,3,none⟩=some (.int .i64 0):=hp3.cell 3
  have hbl:=hp3.box.lt
  have HP3:=Lib.hid hp3
  have HT3:=Lib.hid (Turn.since (S:=fun q=>q=pb) HS3.out)
  have HR3:=Lib.hid (StrsIn.keep HR.out HS3.out)
  have HRS3:=Lib.hid (show Stays (PaOwn pb bv bl) w3 (.slice ra n rc) from HRS.out.mono (fun q hq=>.inl hq) HS3.out.size)
  have HE:Hid (∀ (m:Int) w',stepSt ⟨params,bl.map FBlk.d,pl⟩ (f::r)=.error m→m≠0→RPa w0 pb params pl m bv bl w'→Turn (fun q=>q=pb) w w'→RLnQ w0 pb params pl bv bl (f::r) w (.returned (.tuple #[])) w'):=Lib.hid (fun m w' h1 h2 h3 h4=>⟨rfl,params,pl,m,bv,bl,h3,h4.mono (fun q _ hq=>.inl hq),by rw[h1];exact⟨rfl,h2⟩⟩)
  clear hp3
  obtain⟨hpl0,hpl3,hplb⟩:=HPL.out
  have HPLB:=Lib.hid hplb
  clear hplb
  by_cases g1:f=wFunc
  ·have q1:(f.toList==[102,117,110,99])=true:=is_func g1
   have HSTEP:=Lib.hid (step_func (s:=⟨params,bl.map FBlk.d,pl⟩) (r:=r) g1)
   clear g1
   by_cases hp0:pl=0
   ·by_cases hn1:n=1
    ·subst hp0
     subst hn1
     obtain⟨x0,rfl⟩:=list1 HNN.out
     go_wp2_with fail
     refine (rfail_any w3 HP3.out _ 70).mono ?_
     rintro e4 w4 ⟨rfl,hp4,ht4⟩
     rw[failE_f (by first | rfl | (simp;omega))]at hp4
     have k3:w4.cell? ⟨pb,3,none⟩=some (.int .i64 0):=hp4.cell 3
     have kl:=hp4.box.lt
     have HP4:=Lib.hid hp4
     have HR4:=Lib.hid (RowIn.turn HR3.out ht4 (fun q hq hr=>(HRS3.out q hq).1 (.inl hr)) (fun _ _ h=>h):StrsIn w4 _ [x0])
     have HRS4:=Lib.hid (show Stays (fun q=>q=pb) w4 (.slice ra 1 rc) from HRS3.out.mono (fun q hq=>.inl (.inl hq)) ht4.size)
     have HT4:=Lib.hid (HT3.out.trans ht4)
     clear hp4 ht4 c1 c2 c3
     go_wp2_with fail
     refine (rnums25_any w4 HP4.out _ [x0] HR4.out HRS4.out (by simp)).mono ?_
     rintro e5 w5 ⟨rv,rfl,hrow,hp5,ht5⟩
     obtain⟨g,gc,rfl,hg1,hg2,hg3,hgl,hgc⟩:=own_one (show w5.ownsRow _ _ 1 _ 1 [.int .i64 (numW x0)] from hrow)
     obtain⟨d,hd⟩:∃ d,numW x0=d:=⟨_,rfl⟩
     rw[hd]at hgc
     have HD:=Lib.hid hd
     have HT5:=Lib.hid (HT4.out.trans ht5)
     have HP5:=Lib.hid ((hp5.put 0 (.int .i64 d) (params':=d) (pl':=0) (e':=numsE 0 [x0]) (tl':=[]) rfl).put 2 (.int .i64 1) (params':=d) (pl':=1) (e':=numsE 0 [x0]) (tl':=[]) rfl)
     have k0:w5.cell? ⟨pb,0,none⟩=some (.int .i64 params):=hp5.cell 0
     have k2:w5.cell? ⟨pb,2,none⟩=some (.int .i64 0):=hp5.cell 2
     have kl5:=hp5.box.lt
     have kf5:=hp5.box.frozen
     clear hp5 ht5 hrow hd k3 kl
     go_wp2
     go_end0
     refine⟨rfl,d,1,numsE 0 [x0],bv,bl,HP5.out,((HT5.out.mono (fun q _ hq=>.inl hq)).setCell (p:=⟨pb,0,none⟩) (.inl rfl) _).setCell (p:=⟨pb,2,none⟩) (.inl rfl) _,?_⟩
     rw[HSTEP.out,if_pos (by simp)]
     unfold numsE
     cases hok:areNums [x0]
     ·exact⟨rfl,by decide⟩
     ·exact⟨rfl,by rw[←HD.out];rfl⟩
    ·have HZ:=Lib.hid (show stepSt ⟨params,bl.map FBlk.d,pl⟩ (f::r)=.error 70 from by rw[HSTEP.out,if_neg];rw[HNN.out];exact fun h=>hn1 h.2)
     go_wp2_with fail
     refine (rfail_any w3 HP3.out _ 70).mono ?_
     rintro e4 w4 ⟨rfl,hp4,ht4⟩
     rw[failE_t (by first | rfl | (simp;omega))]at hp4
     have k3:w4.cell? ⟨pb,3,none⟩=some (.int .i64 70):=hp4.cell 3
     have kl:=hp4.box.lt
     have HF:=Lib.hid (HE.out 70 w4 HZ.out (by decide) hp4 (HT3.out.trans ht4))
     clear hp4 ht4 c1 c2 c3
     go_wp2
     go_end0
     exact HF.out
   ·have HZ:=Lib.hid (show stepSt ⟨params,bl.map FBlk.d,pl⟩ (f::r)=.error 70 from by rw[HSTEP.out,if_neg];exact fun h=>hp0 h.1)
    go_wp2_with fail
    refine (rfail_any w3 HP3.out _ 70).mono ?_
    rintro e4 w4 ⟨rfl,hp4,ht4⟩
    rw[failE_t (by first | rfl | (simp;omega))]at hp4
    have k3:w4.cell? ⟨pb,3,none⟩=some (.int .i64 70):=hp4.cell 3
    have kl:=hp4.box.lt
    have HF:=Lib.hid (HE.out 70 w4 HZ.out (by decide) hp4 (HT3.out.trans ht4))
    clear hp4 ht4 c1 c2 c3
    go_wp2
    go_end0
    exact HF.out
  ·by_cases g2:f=wBlock
   ·have q1:(f.toList==[102,117,110,99])=false:=not_func g1
    have q2:(f.toList==[98,108,111,99,107])=true:=is_block g2
    have HSTEP:=Lib.hid (step_block (s:=⟨params,bl.map FBlk.d,pl⟩) (r:=r) g1 g2)
    clear g1 g2
    by_cases hp0:pl=1
    ·by_cases hn1:n=1
     ·subst hp0
      subst hn1
      obtain⟨x0,rfl⟩:=list1 HNN.out
      go_wp2_with fail
      refine (rfail_any w3 HP3.out _ 70).mono ?_
      rintro e4 w4 ⟨rfl,hp4,ht4⟩
      rw[failE_f (by first | rfl | (simp;omega))]at hp4
      have k3:w4.cell? ⟨pb,3,none⟩=some (.int .i64 0):=hp4.cell 3
      have kl:=hp4.box.lt
      have HP4:=Lib.hid hp4
      have HR4:=Lib.hid (RowIn.turn HR3.out ht4 (fun q hq hr=>(HRS3.out q hq).1 (.inl hr)) (fun _ _ h=>h):StrsIn w4 _ [x0])
      have HRS4:=Lib.hid (show Stays (fun q=>q=pb) w4 (.slice ra 1 rc) from HRS3.out.mono (fun q hq=>.inl (.inl hq)) ht4.size)
      have HT4:=Lib.hid (HT3.out.trans ht4)
      clear hp4 ht4 c1 c2 c3
      go_wp2_with fail
      refine (rnums25_any w4 HP4.out _ [x0] HR4.out HRS4.out (by simp)).mono ?_
      rintro e5 w5 ⟨rv,rfl,hrow,hp5,ht5⟩
      obtain⟨g,gc,rfl,hg1,hg2,hg3,hgl,hgc⟩:=own_one (show w5.ownsRow _ _ 1 _ 1 [.int .i64 (numW x0)] from hrow)
      obtain⟨d,hd⟩:∃ d,numW x0=d:=⟨_,rfl⟩
      rw[hd]at hgc
      have HD:=Lib.hid hd
      have HT5:=Lib.hid (HT4.out.trans ht5)
      obtain⟨ba,bc,hbv⟩:=own_shape hp5.row
      obtain⟨bn,hbn⟩:∃ bn,bl.length=bn:=⟨_,rfl⟩
      rw[hbn]at hbv
      subst hbv
      have HBN:=Lib.hid hbn
      rw[hbn]at hb1
      have HP5:=Lib.hid hp5
      have HGC:=Lib.hid hgc
      have HC1:=Lib.hid (show w5.cell? ⟨pb,1,none⟩=some (.slice ba bn bc) from hp5.cell 1)
      have HLT:=Lib.hid (And.intro hp5.box.lt hgl)
      clear hp5 ht5 hrow hd k3 kl hgc hgl hbn
      go_wp2_with fail
      refine wp_region_since_tail 11 rfl (by decide +kernel) (by decide +kernel) (by decide +kernel) (by decide)
       [Is (.pointer (some ⟨pb,0,none⟩)),Is (.slice (some ⟨g,0,none⟩) 1 gc),Is (.pointer (some ⟨g,0,none⟩)),Is (.int .i64 d),Is (.pointer (some ⟨pb,0,none⟩)),Is (.pointer (some ⟨pb,0,none⟩)),Is (.pointer (some ⟨pb,0,none⟩)),Is (.pointer (some ⟨pb,1,none⟩)),Is (.slice ba bn bc),Is (.int .i64 bn),Is (.bool (d != bn))]
       (by repeat (first | exact trivial | refine⟨Is.stable _,?_⟩ | refine⟨IsNums.stable _ _,?_⟩ | refine⟨IsRows.stable _ _,?_⟩)) ⟨?_,?_,?_,?_,?_,?_,?_,?_,?_,?_,?_,trivial⟩ ?_
      all_goals
       intro vs w6 hs hk
       try intro _
       simp only[List.take,List.drop,putAll,Act.put,Knows,KnowsAll,nthF,Is,List.setIfInBounds_toArray,List.set_cons_zero,List.set_cons_succ,Nat.reduceAdd]at hk ⊢
       try simp only[hk]
      ·go_wp2
       exact⟨_,rfl,rfl,Since.refl _⟩
      ·go_wp2
       exact⟨_,rfl,rfl,Since.refl _⟩
      ·go_wp2
       exact⟨_,rfl,rfl,Since.refl _⟩
      ·have k1:w6.cell? ⟨g,0,none⟩=some (.int .i64 d):=(hs.cell (p:=⟨g,0,none⟩) HLT.out.2).trans HGC.out
       have k2:g<w6.heap.size:=Nat.lt_of_lt_of_le HLT.out.2 hs.size
       go_wp2
       exact⟨_,rfl,rfl,Since.refl _⟩
      ·go_wp2
       exact⟨_,rfl,rfl,Since.refl _⟩
      ·go_wp2
       exact⟨_,rfl,rfl,Since.refl _⟩
      ·go_wp2
       exact⟨_,rfl,rfl,Since.refl _⟩
      ·go_wp2
       exact⟨_,rfl,rfl,Since.refl _⟩
      ·have k1:w6.cell? ⟨pb,1,none⟩=some (.slice ba bn bc):=(hs.cell (p:=⟨pb,1,none⟩) HLT.out.1).trans HC1.out
       have k2:pb<w6.heap.size:=Nat.lt_of_lt_of_le HLT.out.1 hs.size
       go_wp2
       exact⟨_,rfl,rfl,Since.refl _⟩
      ·go_wp2
       exact⟨_,rfl,rfl,Since.refl _⟩
      ·go_wp2
       exact⟨_,rfl,rfl,Since.refl _⟩
      ·have HS6:=Lib.hid hs
       have HP6:=Lib.hid (HP5.out.keep HS6.out)
       clear hs hk
       go_wp2_with fail
       refine (rfail_any w6 HP6.out _ 70).mono ?_
       rintro e7 w7 ⟨rfl,hp7,ht7⟩
       obtain⟨E,hE⟩:∃ E,failE (numsE 0 [x0]) (d != (bn:Int)) 70=E:=⟨_,rfl⟩
       rw[hE]at hp7
       have HEE:=Lib.hid hE
       have HT7:=Lib.hid ((HT5.out.later (Turn.since (S:=fun q=>q=pb) HS6.out) (fun q hq=>.inl hq)).trans ht7)
       have hal:=(Since.refl w7).alloc (.cells (fbcells fbZero).toArray 57)
       have HP8:=Lib.hid (hp7.keep hal)
       have HT8:=Lib.hid (HT7.out.alloc (.cells (fbcells fbZero).toArray 57))
       have k1:w7.cell? ⟨pb,1,none⟩=some (.slice ba bn bc):=hp7.cell 1
       have kl:=hp7.box.lt
       have HNB:=Lib.hid (HeapIs.new w7 (fbcells fbZero).toArray 57)
       clear hp7 ht7 hal hE
       go_wp2_with (at_builtin;refine wpList_append_one2 fbcells 6 fbcells_len (by decide) rfl _ _ 22 rfl 57 (.agg #[.slice none 0 0,.slice none 0 0,.int .i64 0,.slice none 0 0,.slice none 0 0,.int .i32 0]) 112 Tryz.underlying22 (by kernel_rfl) rfl (.slice ba bn bc) bl fbZero _ 1 _ rfl rfl HP8.out.row HNB.out (by decide) (by rw[HBN.out];unfold maxLen;omega) (by rw[HBN.out];omega) (Nat.zero_le _) ?_;intro v9 w9 hown9 ht9 hnew9;obtain⟨va,vc,hv9⟩:=own_shape hown9;rw[List.length_append,HBN.out]at hv9;subst hv9;have HOWN9:=Lib.hid hown9;have HT9:=Lib.hid ht9;have HNEW9:=Lib.hid hnew9;have hb9:=HP8.out.box.turn ht9 (own_not HP8.out.row HP8.out.box (by decide));have j1:w9.cell? ⟨pb,1,none⟩=some (.slice ba bn bc):=hb9.cell 1;have j2:w9.cell? ⟨pb,2,none⟩=some (.int .i64 1):=hb9.cell 2;have jl:=hb9.lt;have jf:=hb9.frozen;clear hown9 ht9 hnew9 hb9)
       go_end0
       have hadd:=(HP8.out.addBlock HOWN9.out HT9.out HNEW9.out).put 2 (.int .i64 2) (params':=params) (pl':=2) (e':=E) (tl':=[]) rfl
       refine⟨rfl,params,2,E,_,_,hadd,?_,?_⟩
       ·exact ((((HT8.out.mono fun q _ hq=>.inl hq:Turn (PaOwn pb _ bl) w _).later HT9.out fun q hq=>.inl (.inr (.inl hq))).setCell (p:=⟨pb,1,none⟩) (.inl rfl) _).setCell (p:=⟨pb,2,none⟩) (.inl rfl) _)
       ·rw[HSTEP.out,if_pos (by simp),←HEE.out]
        have hnw:(numsW [x0]).getD 0 0=d:=by rw[←HD.out];rfl
        rw[hnw,List.length_map,HBN.out]
        cases hok:areNums [x0]
        ·rw[if_neg (by simp)]
         have:numsE 0 [x0]=71:=by unfold numsE;rw[hok];rfl
         rw[this]
         exact⟨by unfold failE;rw[if_neg (by simp)],by decide⟩
        ·rw[if_pos rfl]
         have:numsE 0 [x0]=0:=by unfold numsE;rw[hok];rfl
         rw[this]
         by_cases hd2:d=bn
         ·rw[if_pos hd2]
          exact⟨by unfold failE;rw[if_neg (by simp[hd2])],by simp[FBlk.d,fbZero,zeroBlk,FTerm.d]⟩
         ·rw[if_neg hd2]
          exact⟨by unfold failE;rw[if_pos ⟨by simpa using hd2,rfl⟩],by decide⟩
     ·have HZ:=Lib.hid (show stepSt ⟨params,bl.map FBlk.d,pl⟩ (f::r)=.error 70 from by rw[HSTEP.out,if_neg];rw[HNN.out];exact fun h=>hn1 h.2)
      go_wp2_with fail
      refine (rfail_any w3 HP3.out _ 70).mono ?_
      rintro e4 w4 ⟨rfl,hp4,ht4⟩
      rw[failE_t (by first | rfl | (simp;omega))]at hp4
      have k3:w4.cell? ⟨pb,3,none⟩=some (.int .i64 70):=hp4.cell 3
      have kl:=hp4.box.lt
      have HF:=Lib.hid (HE.out 70 w4 HZ.out (by decide) hp4 (HT3.out.trans ht4))
      clear hp4 ht4 c1 c2 c3
      go_wp2
      go_end0
      exact HF.out
    ·have HZ:=Lib.hid (show stepSt ⟨params,bl.map FBlk.d,pl⟩ (f::r)=.error 70 from by rw[HSTEP.out,if_neg];exact fun h=>hp0 h.1)
     go_wp2_with fail
     refine (rfail_any w3 HP3.out _ 70).mono ?_
     rintro e4 w4 ⟨rfl,hp4,ht4⟩
     rw[failE_t (by first | rfl | (simp;omega))]at hp4
     have k3:w4.cell? ⟨pb,3,none⟩=some (.int .i64 70):=hp4.cell 3
     have kl:=hp4.box.lt
     have HF:=Lib.hid (HE.out 70 w4 HZ.out (by decide) hp4 (HT3.out.trans ht4))
     clear hp4 ht4 c1 c2 c3
     go_wp2
     go_end0
     exact HF.out
   ·by_cases g3:f=wPhi
    ·have q1:(f.toList==[102,117,110,99])=false:=not_func g1
     have q2:(f.toList==[98,108,111,99,107])=false:=not_block g2
     have q3:(f.toList==[112,104,105])=true:=is_phi g3
     have HSTEP:=Lib.hid (show stepSt ⟨params,bl.map FBlk.d,pl⟩ (f::r)=(if pl=2 then phiSt ⟨params,bl.map FBlk.d,pl⟩ r else .error 70) from by
      show (if f=wFunc then _ else if f=wBlock then _ else if f=wPhi then (if pl=2 then phiSt _ r else .error 70) else _)=_
      rw[if_neg g1,if_neg g2,if_pos g3])
     clear g1 g2 g3
     by_cases hp2:pl=2
     ·subst hp2
      go_wp2_with fail
      refine (rfail_any w3 HP3.out _ 70).mono ?_
      rintro e4 w4 ⟨rfl,hp4,ht4⟩
      rw[failE_f (by first | rfl | (simp;omega))]at hp4
      have k3:w4.cell? ⟨pb,3,none⟩=some (.int .i64 0):=hp4.cell 3
      have kl:=hp4.box.lt
      have HP4:=Lib.hid hp4
      have HR4:=Lib.hid (RowIn.turn HR3.out ht4 (fun q hq hr=>(HRS3.out q hq).1 (.inl hr)) (fun _ _ h=>h):StrsIn w4 _ r)
      have HRS4:=Lib.hid (show Stays (PaOwn pb bv bl) w4 (.slice ra n rc) from HRS3.out.mono (fun q hq=>.inl hq) ht4.size)
      have HT4:=Lib.hid (HT3.out.trans ht4)
      clear hp4 ht4 c1 c2 c3
      go_wp2_with fail
      obtain⟨b,hb⟩:∃ b,bl[bl.length-1]? = some b:=⟨_,List.getElem?_eq_getElem (by have:=HPLB.out (by omega);have:0<bl.length:=List.length_pos_iff.2 this;omega)⟩
      have hbs:=HBS.out b hb
      refine (rphi_any w4 HP4.out _ r HR4.out HRS4.out (by rw[HNN.out];omega) b hb (by omega) hbs.1).mono ?_
      rintro e5 w5 ⟨rfl,e',bl',hp5,ht5,hans⟩
      have HT5:=Lib.hid ((HT4.out.mono (fun q _ hq=>.inl hq):Turn (PaOwn pb bv bl) w w4).trans ht5)
      have HANS:=Lib.hid hans
      have HP5:=Lib.hid hp5
      clear hp5 ht5 hans hb hbs k3 kl
      go_wp2
      go_end0
      refine⟨rfl,params,2,e',bv,bl',HP5.out,HT5.out,?_⟩
      rw[HSTEP.out,if_pos (by trivial)]
      exact st_ans (fun s h=>phiSt_pl h) HANS.out
     ·have HZ:=Lib.hid (show stepSt ⟨params,bl.map FBlk.d,pl⟩ (f::r)=.error 70 from by rw[HSTEP.out,if_neg hp2])
      go_wp2_with fail
      refine (rfail_any w3 HP3.out _ 70).mono ?_
      rintro e4 w4 ⟨rfl,hp4,ht4⟩
      rw[failE_t (by first | rfl | (simp;omega))]at hp4
      have k3:w4.cell? ⟨pb,3,none⟩=some (.int .i64 70):=hp4.cell 3
      have kl:=hp4.box.lt
      have HF:=Lib.hid (HE.out 70 w4 HZ.out (by decide) hp4 (HT3.out.trans ht4))
      clear hp4 ht4 c1 c2 c3
      go_wp2
      go_end0
      exact HF.out
    ·have q1:(f.toList==[102,117,110,99])=false:=not_func g1
     have q2:(f.toList==[98,108,111,99,107])=false:=not_block g2
     have q3:(f.toList==[112,104,105])=false:=not_phi g3
     have HSTEP:=Lib.hid (show stepSt ⟨params,bl.map FBlk.d,pl⟩ (f::r)=(if 0<op then (if 2≤pl then insSt ⟨params,bl.map FBlk.d,pl⟩ op r else .error 70) else if 0<1+id then (if 2≤pl then termSt ⟨params,bl.map FBlk.d,pl⟩ (1+id) r else .error 70) else .error 72) from by
      show (if f=wFunc then _ else if f=wBlock then _ else if f=wPhi then _ else if 0<numberF f then (if 2≤pl then insSt _ (numberF f) r else .error 70) else if 0<kindF f then (if 2≤pl then termSt _ (kindF f) r else .error 70) else .error 72)=_
      rw[if_neg g1,if_neg g2,if_neg g3,HOP.out,HKD.out])
     clear g1 g2 g3
     by_cases ho:0<op
     ·by_cases hp2:2≤pl
      ·rcases (by omega:pl=2∨pl=3) with rfl|rfl
       all_goals
        go_wp2_with fail
        refine (rfail_any w3 HP3.out _ 70).mono ?_
        rintro e4 w4 ⟨rfl,hp4,ht4⟩
        rw[failE_f (by first | rfl | (simp;omega))]at hp4
        have k3:w4.cell? ⟨pb,3,none⟩=some (.int .i64 0):=hp4.cell 3
        have kl:=hp4.box.lt
        have HP4:=Lib.hid hp4
        have HR4:=Lib.hid (RowIn.turn HR3.out ht4 (fun q hq hr=>(HRS3.out q hq).1 (.inl hr)) (fun _ _ h=>h):StrsIn w4 _ r)
        have HRS4:=Lib.hid (show Stays (PaOwn pb bv bl) w4 (.slice ra n rc) from HRS3.out.mono (fun q hq=>.inl hq) ht4.size)
        have HT4:=Lib.hid (HT3.out.trans ht4)
        clear hp4 ht4 c1 c2 c3
        go_wp2_with fail
        obtain⟨b,hb⟩:∃ b,bl[bl.length-1]? = some b:=⟨_,List.getElem?_eq_getElem (by have:=HPLB.out (by omega);have:0<bl.length:=List.length_pos_iff.2 this;omega)⟩
        have hbs:=HBS.out b hb
        refine (rins_raw w4 HP4.out op (by omega) _ r HR4.out HRS4.out (by rw[HNN.out];omega) b hb (by omega) hbs.2).mono ?_
        rintro e5 w5 ⟨rfl,e',bl',hp5,ht5,hans⟩
        have HT5:=Lib.hid ((HT4.out.mono (fun q _ hq=>.inl hq):Turn (PaOwn pb bv bl) w w4).trans ht5)
        have HANS:=Lib.hid hans
        have HP5:=Lib.hid (hp5.put 2 (.int .i64 3) (params':=params) (pl':=3) (e':=e') (tl':=[]) rfl)
        have k2:w5.cell? ⟨pb,2,none⟩=some (.int .i64 _):=hp5.cell 2
        have kl5:=hp5.box.lt
        have kf5:=hp5.box.frozen
        clear hp5 ht5 hans hb hbs k3 kl
        go_wp2
        go_end0
        refine⟨rfl,params,3,e',bv,bl',HP5.out,HT5.out.setCell (.inl rfl) _,?_⟩
        rw[HSTEP.out,if_pos (by omega:0<op),if_pos (by decide)]
        exact st_ans (fun s h=>insSt_pl h) HANS.out
      ·have HZ:=Lib.hid (show stepSt ⟨params,bl.map FBlk.d,pl⟩ (f::r)=.error 70 from by rw[HSTEP.out,if_pos ho,if_neg hp2])
       go_wp2_with fail
       refine (rfail_any w3 HP3.out _ 70).mono ?_
       rintro e4 w4 ⟨rfl,hp4,ht4⟩
       rw[failE_t (by first | rfl | (simp;omega))]at hp4
       have k3:w4.cell? ⟨pb,3,none⟩=some (.int .i64 70):=hp4.cell 3
       have kl:=hp4.box.lt
       have HF:=Lib.hid (HE.out 70 w4 HZ.out (by decide) hp4 (HT3.out.trans ht4))
       clear hp4 ht4 c1 c2 c3
       go_wp2
       go_end0
       exact HF.out
     ·by_cases hk:0<1+id
      ·by_cases hp2:2≤pl
       ·rcases (by omega:pl=2∨pl=3) with rfl|rfl
        all_goals
         go_wp2_with fail
         refine (rfail_any w3 HP3.out _ 70).mono ?_
         rintro e4 w4 ⟨rfl,hp4,ht4⟩
         rw[failE_f (by first | rfl | (simp;omega))]at hp4
         have k3:w4.cell? ⟨pb,3,none⟩=some (.int .i64 0):=hp4.cell 3
         have kl:=hp4.box.lt
         have HP4:=Lib.hid hp4
         have HR4:=Lib.hid (RowIn.turn HR3.out ht4 (fun q hq hr=>(HRS3.out q hq).1 (.inl hr)) (fun _ _ h=>h):StrsIn w4 _ r)
         have HRS4:=Lib.hid (show Stays (PaOwn pb bv bl) w4 (.slice ra n rc) from HRS3.out.mono (fun q hq=>.inl hq) ht4.size)
         have HT4:=Lib.hid (HT3.out.trans ht4)
         clear hp4 ht4 c1 c2 c3
         go_wp2_with fail
         obtain⟨b,hb⟩:∃ b,bl[bl.length-1]? = some b:=⟨_,List.getElem?_eq_getElem (by have:=HPLB.out (by omega);have:0<bl.length:=List.length_pos_iff.2 this;omega)⟩
         have hbs:=HBS.out b hb
         refine (rterm_raw w4 HP4.out (1+id) (by omega) _ r HR4.out HRS4.out (by rw[HNN.out];omega) b hb (by omega)).mono ?_
         rintro e5 w5 ⟨rfl,e',bl',hp5,ht5,hans⟩
         have HT5:=Lib.hid ((HT4.out.mono (fun q _ hq=>.inl hq):Turn (PaOwn pb bv bl) w w4).trans ht5)
         have HANS:=Lib.hid hans
         have HP5:=Lib.hid (hp5.put 2 (.int .i64 1) (params':=params) (pl':=1) (e':=e') (tl':=[]) rfl)
         have k2:w5.cell? ⟨pb,2,none⟩=some (.int .i64 _):=hp5.cell 2
         have kl5:=hp5.box.lt
         have kf5:=hp5.box.frozen
         clear hp5 ht5 hans hb hbs k3 kl
         go_wp2
         go_end0
         refine⟨rfl,params,1,e',bv,bl',HP5.out,HT5.out.setCell (.inl rfl) _,?_⟩
         rw[HSTEP.out,if_neg (by omega:¬ 0<op),if_pos (by omega:0<1+id),if_pos (by decide)]
         exact st_ans (fun s h=>termSt_pl h) HANS.out
       ·have HZ:=Lib.hid (show stepSt ⟨params,bl.map FBlk.d,pl⟩ (f::r)=.error 70 from by rw[HSTEP.out,if_neg ho,if_pos hk,if_neg hp2])
        go_wp2_with fail
        refine (rfail_any w3 HP3.out _ 70).mono ?_
        rintro e4 w4 ⟨rfl,hp4,ht4⟩
        rw[failE_t (by first | rfl | (simp;omega))]at hp4
        have k3:w4.cell? ⟨pb,3,none⟩=some (.int .i64 70):=hp4.cell 3
        have kl:=hp4.box.lt
        have HF:=Lib.hid (HE.out 70 w4 HZ.out (by decide) hp4 (HT3.out.trans ht4))
        clear hp4 ht4 c1 c2 c3
        go_wp2
        go_end0
        exact HF.out
      ·have HZ:=Lib.hid (show stepSt ⟨params,bl.map FBlk.d,pl⟩ (f::r)=.error 72 from by rw[HSTEP.out,if_neg ho,if_neg hk])
       go_wp2_with fail
       refine (rfail_any w3 HP3.out true 72).mono ?_
       rintro e4 w4 ⟨rfl,hp4,ht4⟩
       have HF:=Lib.hid (HE.out 72 w4 HZ.out (by decide) hp4 (HT3.out.trans ht4))
       clear hp4 ht4 c1 c2 c3
       go_wp2
       go_end0
       exact HF.out
 clear aK1 HAK
 go_wp2
 ·obtain rfl:n=0:=by omega
  obtain rfl:r=[]:=List.eq_nil_of_length_eq_zero HNN.out
  exact HJ.out _ _ (.inl ⟨_,rfl,rfl⟩) (fun q hq=>HST.out q (by cases hq;rfl))
 ·exact HJ.out _ _ (RowIn.rest HL.out) (fun q hq=>HST.out q (by cases hq;rfl))
end
end Go.Proofs.YtmhojfpidedjeaaGreatDoor
