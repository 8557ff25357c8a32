import Derived.Test.YtmhojfpidedjeaaGreatDoorTp13
namespace Go.Proofs.YtmhojfpidedjeaaGreatDoor
open Go.RowKit Go.Lib
set_option linter.unusedVariables false
set_option maxHeartbeats 2000000
set_option maxRecDepth 100000
def StAns (r:Except Int PSt) (e params pl:Int) (bl:List FBlk):Prop:=match r with
 | .error n=>e=n∧n≠0
 | .ok s=>e=0∧s=⟨params,bl.map FBlk.d,pl⟩
def Zg1 (w0:World) (pb:Nat) (params pl:Int) (bv:Value) (bl:List FBlk) (l:List ByteArray) (w:World) (x:Ending) (w':World):Prop:=
 x=.returned (.tuple #[])∧∃ params' pl' e' bv' bl',RPa w0 pb params' pl' e' bv' bl' w'∧Turn (PaOwn pb bv bl) w w'∧StAns (ZD ⟨params,bl.map FBlk.d,pl⟩ l) e' params' pl' bl'
theorem RowIn.rest {α:Type} {f : α→List Value} {sz:Nat} {p : World→α→Prop} {w : World} {b off n c:Nat} {x : α} {l : List α} (h:RowIn f sz p w (.slice (some ⟨b,off,none⟩) n c) (x::l)):RowIn f sz p w (.slice (some ⟨b,off+sz,none⟩) (n-1) (c-1)) l:=by
 rcases h with ⟨_,_,h2⟩|⟨b',off',cap,h1,h2,h3,h4,h5⟩
 ·cases h2
 ·cases h1
  refine .inr ⟨b,off+sz,_,rfl,by rw[List.length_cons]at h2;omega,by omega,h4,fun j y hj=>?_⟩;obtain⟨h6,h7⟩:=h5 (j+1) y (by simpa using hj);exact⟨fun t ht=>by rw[←h6 t ht];congr 2;rw[Nat.succ_mul];omega,h7⟩
theorem Qb:Y8.toList=[102,117,110,99]:=by kernel_rfl
theorem Ky:YW.toList=[98,108,111,99,107]:=by kernel_rfl
theorem Zau:Wv.toList=[112,104,105]:=by kernel_rfl
theorem WO {f : ByteArray} (h:¬ f=Y8):(f.toList==[102,117,110,99])=false:=by have:=(Lib.bytes_beq_false_iff f Y8).2 h;rwa [Qb]at this
theorem VX {f : ByteArray} (h:¬ f=YW):(f.toList==[98,108,111,99,107])=false:=by have:=(Lib.bytes_beq_false_iff f YW).2 h;rwa [Ky]at this
theorem ZcI {f : ByteArray} (h:¬ f=Wv):(f.toList==[112,104,105])=false:=by have:=(Lib.bytes_beq_false_iff f Wv).2 h;rwa [Zau]at this
theorem ZcN {f : ByteArray} (h:f=Y8):(f.toList==[102,117,110,99])=true:=by have:=(Lib.bytes_beq_iff f Y8).2 h;rwa [Qb]at this
theorem ZbM {f : ByteArray} (h:f=YW):(f.toList==[98,108,111,99,107])=true:=by have:=(Lib.bytes_beq_iff f YW).2 h;rwa [Ky]at this
theorem Zek {f : ByteArray} (h:f=Wv):(f.toList==[112,104,105])=true:=by have:=(Lib.bytes_beq_iff f Wv).2 h;rwa [Zau]at this
theorem ZbN {s t:PSt} {op:Int} {l : List ByteArray} (h:YZ s op l=.ok t):t.pl=3:=by
 unfold YZ at h;split at h
 ·split at h
  ·cases h;rfl
  ·cases h
 ·cases h
theorem Zaz {s t:PSt} {k : Int} {l : List ByteArray} (h:YD s k l=.ok t):t.pl=1:=by
 unfold YD at h;split at h
 ·split at h
  ·cases h;rfl
  ·cases h
 ·cases h
theorem V7 {r : Except Int PSt} {e params pl:Int} {bl:List FBlk} (ha:∀ s,r=.ok s→s.pl=pl) (h:JI r e params bl):StAns r e params pl bl:=by
 cases r with
 | error n=>exact h
 | ok s=>obtain⟨h1,h2,h3⟩:=h;exact⟨h1,by obtain⟨a,b,c⟩:=s;have:=ha _ rfl;simp at h2 h3 this;rw[h2,h3,this]⟩
theorem ZaD {s : PSt} {f : ByteArray} {r : List ByteArray} (h:f=Y8):ZD s (f::r)=if s.pl=0∧r.length=1 then (if ZZ r then .ok ⟨(numsW r).getD 0 0,s.blocks,1⟩ else .error 71) else .error 70:=if_pos h
theorem Qi {s : PSt} {f : ByteArray} {r : List ByteArray} (h1:¬ f=Y8) (h:f=YW):ZD s (f::r)=if s.pl=1∧r.length=1 then (if ZZ r then (if (numsW r).getD 0 0=s.blocks.length then .ok ⟨s.params,s.blocks++[zeroBlk],2⟩ else .error 70) else .error 71) else .error 70:=(if_neg h1).trans (if_pos h)
theorem JY (s:ByteArray):0≤Yp s∧Yp s≤18:=by
 have:=QC s;unfold Yp;omega
theorem ZcO (l:List ByteArray) (s:ByteArray) : -1≤Lib.idxOfS l s∧Lib.idxOfS l s<l.length∨l.length=0:=by
 by_cases h0:l.length=0
 ·exact .inr h0
 refine .inl ?_;by_cases h:∃ k,k<l.length∧l.getD k ByteArray.empty=s∧∀ j,j<k→l.getD j ByteArray.empty≠s
 ·obtain⟨k,h1,h2,h3⟩:=h;have:=Lib.idxFromS_hit s l k 0 h1 h2 h3;unfold Lib.idxOfS;omega
 ·have ha:∀ k,k<l.length→l.getD k ByteArray.empty≠s:=by
   intro k;induction k using Nat.strongRecOn with
   | _ k ih=>exact fun hk he=>h ⟨k,hk,he,fun j hj=>ih j hj (by omega)⟩
  have:=Lib.idxOfS_miss l l.length s ha;rw[List.take_length]at this;omega
theorem Zah (s:ByteArray):0≤WC s∧WC s≤5:=by
 have h:=ZcO ZY s;have h5:ZY.length=5:=rfl;rw[h5]at h;unfold WC;omega
section
variable {w0:World} {pb:Nat} {params pl:Int} {bv:Value} {bl:List FBlk}
theorem Ze2 (w:World) (h:RPa w0 pb params pl 0 bv bl w) (v:Value) (r:List ByteArray) (hl:StrsIn w v r) (ha:Stays (PaOwn pb bv bl) w v) (hn:r.length≤400000) (b:FBlk) (hb:bl[bl.length-1]? = some b) (hd:bl.length≤1000000) (hc:b.phis.length≤1000000):Calls Tryz.prog 91 #[.pointer (some ⟨pb,0,none⟩),v] w (PhiQ w0 pb params pl bv bl r w):=by
 cases r with
 | nil =>
  obtain⟨a,c,e1,_⟩:=RowIn.shape hl;obtain rfl:v=.slice a 0 c:=e1;exact Ze1 w h a c
 | cons d r=>exact Zd2 w h v d r hl ha (by rw[List.length_cons]at hn;omega) b hb hd hc
theorem Zbw {s t:PSt} {l : List ByteArray} (h:phiSt s l=.ok t):t.pl=s.pl:=by
 unfold phiSt at h;split at h
 ·cases h
 ·split at h
  ·split at h
   ·cases h;rfl
   ·cases h
  ·cases h
theorem Zd5 (w:World) (h:RPa w0 pb params pl 0 bv bl w) (Hm:0≤pl∧pl≤3∧(2≤pl→bl≠[])) (v:Value) (f:ByteArray) (r:List ByteArray) (hl:StrsIn w v (f::r)) (Hj:Stays (PaOwn pb bv bl) w v) (hn:r.length≤400000) (HI:bl.length≤900000) (hu:∀ b,bl[bl.length-1]? = some b→b.phis.length≤1000000∧b.ins.length≤1000000):Calls Tryz.prog 53 #[.pointer (some ⟨pb,0,none⟩),v] w (Zg1 w0 pb params pl bv bl (f::r) w):=by
 obtain⟨a,c,e1,_⟩:=RowIn.shape hl;obtain⟨n,hM⟩:∃ n,r.length=n:=⟨_,rfl⟩
 rw[List.length_cons,hM]at e1;subst e1;obtain⟨b0,off,x,ha,H5,hx,Ho,HA⟩:=StrsIn.at hl (k:=0) (by simp);obtain rfl:f=x:=by simpa using hx
 subst ha;rw[Nat.add_zero]at Ho;have H3:n+1≤c:=by
  rcases hl with ⟨_,_,h2⟩|⟨_,_,_,h1,h2,_⟩
  ·cases h2
  ·cases h1;rw[List.length_cons,hM]at h2;exact h2
 have H:=hid h;have Hs:=hid Hj;have HQ:=hid Hm;have He:=hid hu;have hD:=hid hM;rw[hM]at hn;have HL:=hid hl;obtain⟨op,hW⟩:∃ op,Yp f=op:=⟨_,rfl⟩
 obtain⟨kd,hY⟩:∃ kd,WC f=kd:=⟨_,rfl⟩
 have Hv:=JY f;have Hw:=Zah f;rw[hW]at Hv;rw[hY]at Hw;have hS:=fun w=>Zcn f w
 rw[hW]at hS;have Hz:=hid hS;have HT:=hid hW;have HV:=hid hY;have Hn:∀ y,1+Lib.idxOfS ZY f=y→y=kd:=fun y hy=>by rw[←hy,←hY];rfl
 have HW:=hid Hn;clear h hl Hj hM Hm hu hW hY hS Hn hx HA;go_enter Tryz.func53,Tryz.ntmps53
 go_upto_region 1 with (fail)
 rename_i K1 aK1
 have Hu:=hid aK1;have HJ:Hid (∀ {u1 u2 u3 u6 u7 u8 u9 u10 u11 u12 u13 u14 u15 u16 u17 u18 u19 u20 u21 u22 u23 u24 u25 u26 u27 u28 u29 u30 u31 u32 u33 u34 u35 u36 u37 u38 u39 u40 u41 u42 u43 u44 u45 u46 u47 u48 u49 u50 u51 u52 u53 u54 u55 u56 u57 u58 u59 u60 u61 u62 u63 u64 u65 u66 u67 u68 u69 u70 u71 u72 u73 u74 u75 u76 u77 u78 u79 u80 u81 u82 u83 u84 u85 u86 u87 u88 u89 u90 u91 u92 u93 u94 u95 u96 u97 u98 u99 u100 u101 u102 u103 u104 u105 u106 u107 u108 u109 u110 u111 u112 u113 u114 u115 u116 u117 u118 u119 u120 u121 u122 u123 u124 u125 u126 u127 u128 u129 u130 u131 u132 u133 u134 u135 u136 u137 u138 u139 u140 u141 u142 u143 u144 u145 u146 u147 u148 u149 u150 u151 u152 u153 u154 u155 u156 u157 u158 u159 u160 u161 u162 u163 u164 u165 u166 u167 u168 u169 u170 u171 u172 u173 u174 u175 u176 u177 u178 u179:Value} (ra:Option Addr) (rc:Nat),StrsIn w (.slice ra n rc) r→Stays (PaOwn pb bv bl) w (.slice ra n rc)→K1 ⟨(Value.pointer (some ⟨pb,0,none⟩)::u1::u2::u3::Value.string f::Value.slice ra n rc::u6::u7::u8::u9::u10::u11::u12::u13::u14::u15::u16::u17::u18::u19::u20::u21::u22::u23::u24::u25::u26::u27::u28::u29::u30::u31::u32::u33::u34::u35::u36::u37::u38::u39::u40::u41::u42::u43::u44::u45::u46::u47::u48::u49::u50::u51::u52::u53::u54::u55::u56::u57::u58::u59::u60::u61::u62::u63::u64::u65::u66::u67::u68::u69::u70::u71::u72::u73::u74::u75::u76::u77::u78::u79::u80::u81::u82::u83::u84::u85::u86::u87::u88::u89::u90::u91::u92::u93::u94::u95::u96::u97::u98::u99::u100::u101::u102::u103::u104::u105::u106::u107::u108::u109::u110::u111::u112::u113::u114::u115::u116::u117::u118::u119::u120::u121::u122::u123::u124::u125::u126::u127::u128::u129::u130::u131::u132::u133::u134::u135::u136::u137::u138::u139::u140::u141::u142::u143::u144::u145::u146::u147::u148::u149::u150::u151::u152::u153::u154::u155::u156::u157::u158::u159::u160::u161::u162::u163::u164::u165::u166::u167::u168::u169::u170::u171::u172::u173::u174::u175::u176::u177::u178::u179::[]).toArray,[]⟩ w):=by
  clear aK1;apply hid
  intro u1 u2 u3 u6 u7 u8 u9 u10 u11 u12 u13 u14 u15 u16 u17 u18 u19 u20 u21 u22 u23 u24 u25 u26 u27 u28 u29 u30 u31 u32 u33 u34 u35 u36 u37 u38 u39 u40 u41 u42 u43 u44 u45 u46 u47 u48 u49 u50 u51 u52 u53 u54 u55 u56 u57 u58 u59 u60 u61 u62 u63 u64 u65 u66 u67 u68 u69 u70 u71 u72 u73 u74 u75 u76 u77 u78 u79 u80 u81 u82 u83 u84 u85 u86 u87 u88 u89 u90 u91 u92 u93 u94 u95 u96 u97 u98 u99 u100 u101 u102 u103 u104 u105 u106 u107 u108 u109 u110 u111 u112 u113 u114 u115 u116 u117 u118 u119 u120 u121 u122 u123 u124 u125 u126 u127 u128 u129 u130 u131 u132 u133 u134 u135 u136 u137 u138 u139 u140 u141 u142 u143 u144 u145 u146 u147 u148 u149 u150 u151 u152 u153 u154 u155 u156 u157 u158 u159 u160 u161 u162 u163 u164 u165 u166 u167 u168 u169 u170 u171 u172 u173 u174 u175 u176 u177 u178 u179 ra rc hr Hl;refine Hu.out _ _ ?_;have HR:=hid hr;have HP:=hid Hl;clear hr Hl;go_wp2_with fail
  refine (Hz.out w).mono ?_;rintro e1 w1 ⟨rfl,hV⟩;have hV:Since w w1:=hV;have HO:=hid hV;clear hV Ho;go_wp2_with fail
  refine (Qq w1).mono ?_;rintro e2 w2 ⟨rfl,h9,Hk⟩;have HN:=hid (HO.out.trans Hk);have hh:=hid (Zdb _ 5 ZY rfl (by decide) f w2 h9);clear h9 Hk;go_wp2_with fail
  refine hh.out.mono ?_;rintro e3 w3 ⟨rfl,hU⟩;have hU:Since w2 w3:=hU;have h5:=hid (HN.out.trans hU);clear hU hh;obtain⟨id,hid⟩:∃ id,Lib.idxOfS ZY f=id:=⟨_,rfl⟩
  have Hx:1+id=kd:=HW.out _ (by rw[hid]);rw[hid];subst Hx;clear hid;have hH:=H.out.keep h5.out;have c1:w3.cell? ⟨pb,1,none⟩=some bv:=hH.cell 1;have c2:w3.cell? ⟨pb,2,none⟩=some (.int .i64 pl):=hH.cell 2;have c3:w3.cell? ⟨pb,3,none⟩=some (.int .i64 0):=hH.cell 3;have H4:=hH.box.lt;have hh:=hid hH;have hm:=hid (Turn.since (S:=fun q=>q=pb) h5.out);have hQ:=hid (StrsIn.keep HR.out h5.out);have hj:=zH (Stays (PaOwn pb bv bl) w3 (.slice ra n rc)) (HP.out.mono (fun q hq=>.inl hq) h5.out.size);have HE:Hid (∀ (m:Int) w',ZD ⟨params,bl.map FBlk.d,pl⟩ (f::r)=.error m→m≠0→RPa w0 pb params pl m bv bl w'→Turn (fun q=>q=pb) w w'→Zg1 w0 pb params pl bv bl (f::r) w (.returned (.tuple #[])) w'):=hid (fun m w' h1 h2 h3 h4=>⟨rfl,params,pl,m,bv,bl,h3,h4.mono (fun q _ hq=>.inl hq),by rw[h1];exact⟨rfl,h2⟩⟩)
  clear hH;obtain⟨H2,H1,Ha⟩:=HQ.out;have hT:=hid Ha;clear Ha;by_cases g1:f=Y8
  ·have q1:(f.toList==[102,117,110,99])=true:=ZcN g1;have hf:=hid (ZaD (s:=⟨params,bl.map FBlk.d,pl⟩) (r:=r) g1);clear g1;by_cases hL:pl=0
   ·by_cases hN:n=1
    ·subst hL;subst hN;obtain⟨x0,rfl⟩:=JA hD.out;go_wp2_with fail
     refine (ZL w3 hh.out _ 70).mono ?_;rintro e4 w4 ⟨rfl,hc,he⟩;rw[WT (by first | rfl | (simp;omega))]at hc;have k3:w4.cell? ⟨pb,3,none⟩=some (.int .i64 0):=hc.cell 3;have kl:=hc.box.lt;have hC:=hid hc;have hA:=hid (RowIn.turn hQ.out he (fun q hq hr=>(hj.out q hq).1 (.inl hr)) (fun _ _ h=>h):StrsIn w4 _ [x0])
     have hp:=zH (Stays (fun q=>q=pb) w4 (.slice ra 1 rc)) (hj.out.mono (fun q hq=>.inl (.inl hq)) he.size)
     have hz:=hid (hm.out.trans he);clear hc he c1 c2 c3;go_wp2_with fail
     refine (XF w4 hC.out _ [x0] hA.out hp.out (by simp)).mono ?_;rintro e5 w5 ⟨rv,rfl,hF,hg,hi⟩;obtain⟨g,gc,rfl,HH,HG,HC,Hc,hO⟩:=WM (show w5.ownsRow _ _ 1 _ 1 [.int .i64 (ZS x0)] from hF);obtain⟨d,hd⟩:∃ d,ZS x0=d:=⟨_,rfl⟩
     rw[hd]at hO;have HD:=hid hd;have hv:=hid (hz.out.trans hi);have hB:=hid ((hg.put 0 (.int .i64 d) (params':=d) (pl':=0) (e':=numsE 0 [x0]) (tl':=[]) rfl).put 2 (.int .i64 1) (params':=d) (pl':=1) (e':=numsE 0 [x0]) (tl':=[]) rfl);have k0:w5.cell? ⟨pb,0,none⟩=some (.int .i64 params):=hg.cell 0;have k2:w5.cell? ⟨pb,2,none⟩=some (.int .i64 0):=hg.cell 2;have kl5:=hg.box.lt;have kf5:=hg.box.frozen;clear hg hi hF hd k3 kl;go_wp2
     go_end0
     refine⟨rfl,d,1,numsE 0 [x0],bv,bl,hB.out,((hv.out.mono (fun q _ hq=>.inl hq)).setCell (p:=⟨pb,0,none⟩) (.inl rfl) _).setCell (p:=⟨pb,2,none⟩) (.inl rfl) _,?_⟩;rw[hf.out,if_pos (by simp)];unfold numsE
     cases Hb:ZZ [x0]
     ·exact⟨rfl,by decide⟩
     ·exact⟨rfl,by rw[←HD.out];rfl⟩
    ·have HZ:=zH (ZD ⟨params,bl.map FBlk.d,pl⟩ (f::r)=.error 70) (by rw[hf.out,if_neg];rw[hD.out];exact fun h=>hN h.2);go_wp2_with fail
     refine (ZL w3 hh.out _ 70).mono ?_;rintro e4 w4 ⟨rfl,hc,he⟩;rw[Xs (by first | rfl | (simp;omega))]at hc;have k3:w4.cell? ⟨pb,3,none⟩=some (.int .i64 70):=hc.cell 3;have kl:=hc.box.lt;have HF:=hid (HE.out 70 w4 HZ.out (by decide) hc (hm.out.trans he));clear hc he c1 c2 c3;go_wp2
     go_end0
     exact HF.out
   ·have HZ:=zH (ZD ⟨params,bl.map FBlk.d,pl⟩ (f::r)=.error 70) (by rw[hf.out,if_neg];exact fun h=>hL h.1);go_wp2_with fail
    refine (ZL w3 hh.out _ 70).mono ?_;rintro e4 w4 ⟨rfl,hc,he⟩;rw[Xs (by first | rfl | (simp;omega))]at hc;have k3:w4.cell? ⟨pb,3,none⟩=some (.int .i64 70):=hc.cell 3;have kl:=hc.box.lt;have HF:=hid (HE.out 70 w4 HZ.out (by decide) hc (hm.out.trans he));clear hc he c1 c2 c3;go_wp2
    go_end0
    exact HF.out
  ·by_cases g2:f=YW
   ·have q1:(f.toList==[102,117,110,99])=false:=WO g1;have q2:(f.toList==[98,108,111,99,107])=true:=ZbM g2;have hf:=hid (Qi (s:=⟨params,bl.map FBlk.d,pl⟩) (r:=r) g1 g2);clear g1 g2;by_cases hL:pl=1
    ·by_cases hN:n=1
     ·subst hL;subst hN;obtain⟨x0,rfl⟩:=JA hD.out;go_wp2_with fail
      refine (ZL w3 hh.out _ 70).mono ?_;rintro e4 w4 ⟨rfl,hc,he⟩;rw[WT (by first | rfl | (simp;omega))]at hc;have k3:w4.cell? ⟨pb,3,none⟩=some (.int .i64 0):=hc.cell 3;have kl:=hc.box.lt;have hC:=hid hc;have hA:=hid (RowIn.turn hQ.out he (fun q hq hr=>(hj.out q hq).1 (.inl hr)) (fun _ _ h=>h):StrsIn w4 _ [x0])
      have hp:=zH (Stays (fun q=>q=pb) w4 (.slice ra 1 rc)) (hj.out.mono (fun q hq=>.inl (.inl hq)) he.size)
      have hz:=hid (hm.out.trans he);clear hc he c1 c2 c3;go_wp2_with fail
      refine (XF w4 hC.out _ [x0] hA.out hp.out (by simp)).mono ?_;rintro e5 w5 ⟨rv,rfl,hF,hg,hi⟩;obtain⟨g,gc,rfl,HH,HG,HC,Hc,hO⟩:=WM (show w5.ownsRow _ _ 1 _ 1 [.int .i64 (ZS x0)] from hF);obtain⟨d,hd⟩:∃ d,ZS x0=d:=⟨_,rfl⟩
      rw[hd]at hO;have HD:=hid hd;have hv:=hid (hz.out.trans hi);obtain⟨ba,bc,Hp⟩:=Ze hg.row;obtain⟨bn,h0⟩:∃ bn,bl.length=bn:=⟨_,rfl⟩
      rw[h0]at Hp;subst Hp;have h7:=hid h0;rw[h0]at HI;have hB:=hid hg;have HX:=hid hO;have H0:=zH (w5.cell? ⟨pb,1,none⟩=some (.slice ba bn bc)) (hg.cell 1);have h6:=hid (And.intro hg.box.lt Hc);clear hg hi hF hd k3 kl hO Hc h0;go_wp2_with fail
      refine Zb 11 rfl (by decide +kernel) (by decide +kernel) (by decide +kernel) (by decide)
       [Is (.pointer (some ⟨pb,0,none⟩)),Is (.slice (some ⟨g,0,none⟩) 1 gc),Is (.pointer (some ⟨g,0,none⟩)),Is (.int .i64 d),Is (.pointer (some ⟨pb,0,none⟩)),Is (.pointer (some ⟨pb,0,none⟩)),Is (.pointer (some ⟨pb,0,none⟩)),Is (.pointer (some ⟨pb,1,none⟩)),Is (.slice ba bn bc),Is (.int .i64 bn),Is (.bool (d != bn))]
       (by repeat (first | exact trivial | refine⟨Is.stable _,?_⟩ | refine⟨ZV.stable _ _,?_⟩ | refine⟨IsRows.stable _ _,?_⟩)) ⟨?_,?_,?_,?_,?_,?_,?_,?_,?_,?_,?_,trivial⟩ ?_
      all_goals
       intro vs w6 hs hk;try intro _
       simp only[List.take,List.drop,putAll,Act.put,Zh,Zc,Zd,Is,List.setIfInBounds_toArray,List.set_cons_zero,List.set_cons_succ,Nat.reduceAdd]at hk ⊢;try simp only[hk]
      iterate 3
       ·go_wp2
        exact⟨_,rfl,rfl,.refl _⟩
      ·have k1:w6.cell? ⟨g,0,none⟩=some (.int .i64 d):=(hs.cell (p:=⟨g,0,none⟩) h6.out.2).trans HX.out;have k2:g<w6.heap.size:=Nat.lt_of_lt_of_le h6.out.2 hs.size;go_wp2
       exact⟨_,rfl,rfl,.refl _⟩
      iterate 4
       ·go_wp2
        exact⟨_,rfl,rfl,.refl _⟩
      ·have k1:w6.cell? ⟨pb,1,none⟩=some (.slice ba bn bc):=(hs.cell (p:=⟨pb,1,none⟩) h6.out.1).trans H0.out;have k2:pb<w6.heap.size:=Nat.lt_of_lt_of_le h6.out.1 hs.size;go_wp2
       exact⟨_,rfl,rfl,.refl _⟩
      iterate 2
       ·go_wp2
        exact⟨_,rfl,rfl,.refl _⟩
      ·have Ht:=hid hs;have HS:=hid (hB.out.keep Ht.out);clear hs hk;go_wp2_with fail
       refine (ZL w6 HS.out _ 70).mono ?_;rintro e7 w7 ⟨rfl,hK,Hi⟩;obtain⟨E,hE⟩:∃ E,Yj (numsE 0 [x0]) (d != (bn:Int)) 70=E:=⟨_,rfl⟩
       rw[hE]at hK;have HY:=hid hE;have HM:=hid ((hv.out.later (Turn.since (S:=fun q=>q=pb) Ht.out) (fun q hq=>.inl hq)).trans Hi);have Hq:=(Since.refl w7).alloc (.cells (fbcells Yg).toArray 57);have hR:=hid (hK.keep Hq);have HK:=hid (HM.out.alloc (.cells (fbcells Yg).toArray 57));have k1:w7.cell? ⟨pb,1,none⟩=some (.slice ba bn bc):=hK.cell 1;have kl:=hK.box.lt;have HU:=hid (HeapIs.new w7 (fbcells Yg).toArray 57);clear hK Hi Hq hE;go_wp2_with (at_builtin;refine Zf fbcells 6 Zs (by decide) rfl _ _ 22 rfl 57 (.agg #[.slice none 0 0,.slice none 0 0,.int .i64 0,.slice none 0 0,.slice none 0 0,.int .i32 0]) 112 Tryz.underlying22 (by kernel_rfl) rfl (.slice ba bn bc) bl Yg _ 1 _ rfl rfl hR.out.row HU.out (by decide) (by rw[h7.out];unfold maxLen;omega) (by rw[h7.out];omega) (Nat.zero_le _) ?_;intro v9 w9 hJ h8 hX;obtain⟨va,vc,Hh⟩:=Ze hJ;rw[List.length_append,h7.out]at Hh;subst Hh;have Hf:=hid hJ;have Hr:=hid h8;have Hg:=hid hX;have hP:=hR.out.box.turn h8 (Zk hR.out.row hR.out.box (by decide));have j1:w9.cell? ⟨pb,1,none⟩=some (.slice ba bn bc):=hP.cell 1;have j2:w9.cell? ⟨pb,2,none⟩=some (.int .i64 1):=hP.cell 2;have jl:=hP.lt;have jf:=hP.frozen;clear hJ h8 hX hP)
       go_end0
       have Hy:=(hR.out.addBlock Hf.out Hr.out Hg.out).put 2 (.int .i64 2) (params':=params) (pl':=2) (e':=E) (tl':=[]) rfl;refine⟨rfl,params,2,E,_,_,Hy,?_,?_⟩
       ·exact ((((HK.out.mono fun q _ hq=>.inl hq:Turn (PaOwn pb _ bl) w _).later Hr.out fun q hq=>.inl (.inr (.inl hq))).setCell (p:=⟨pb,1,none⟩) (.inl rfl) _).setCell (p:=⟨pb,2,none⟩) (.inl rfl) _)
       ·rw[hf.out,if_pos (by simp),←HY.out];have HB:(numsW [x0]).getD 0 0=d:=by rw[←HD.out];rfl
        rw[HB,List.length_map,h7.out]
        cases Hb:ZZ [x0]
        ·rw[if_neg (by simp)];have:numsE 0 [x0]=71:=by unfold numsE;rw[Hb];rfl
         rw[this];exact⟨by unfold Yj;rw[if_neg (by simp)],by decide⟩
        ·rw[if_pos rfl];have:numsE 0 [x0]=0:=by unfold numsE;rw[Hb];rfl
         rw[this];by_cases hZ:d=bn
         ·rw[if_pos hZ];exact⟨by unfold Yj;rw[if_neg (by simp[hZ])],by simp[FBlk.d,Yg,zeroBlk,Zt.d]⟩
         ·rw[if_neg hZ];exact⟨by unfold Yj;rw[if_pos ⟨by simpa using hZ,rfl⟩],by decide⟩
     ·have HZ:=zH (ZD ⟨params,bl.map FBlk.d,pl⟩ (f::r)=.error 70) (by rw[hf.out,if_neg];rw[hD.out];exact fun h=>hN h.2);go_wp2_with fail
      refine (ZL w3 hh.out _ 70).mono ?_;rintro e4 w4 ⟨rfl,hc,he⟩;rw[Xs (by first | rfl | (simp;omega))]at hc;have k3:w4.cell? ⟨pb,3,none⟩=some (.int .i64 70):=hc.cell 3;have kl:=hc.box.lt;have HF:=hid (HE.out 70 w4 HZ.out (by decide) hc (hm.out.trans he));clear hc he c1 c2 c3;go_wp2
      go_end0
      exact HF.out
    ·have HZ:=zH (ZD ⟨params,bl.map FBlk.d,pl⟩ (f::r)=.error 70) (by rw[hf.out,if_neg];exact fun h=>hL h.1);go_wp2_with fail
     refine (ZL w3 hh.out _ 70).mono ?_;rintro e4 w4 ⟨rfl,hc,he⟩;rw[Xs (by first | rfl | (simp;omega))]at hc;have k3:w4.cell? ⟨pb,3,none⟩=some (.int .i64 70):=hc.cell 3;have kl:=hc.box.lt;have HF:=hid (HE.out 70 w4 HZ.out (by decide) hc (hm.out.trans he));clear hc he c1 c2 c3;go_wp2
     go_end0
     exact HF.out
   ·by_cases g3:f=Wv
    ·have q1:(f.toList==[102,117,110,99])=false:=WO g1;have q2:(f.toList==[98,108,111,99,107])=false:=VX g2;have q3:(f.toList==[112,104,105])=true:=Zek g3;have hf:=hid (show ZD ⟨params,bl.map FBlk.d,pl⟩ (f::r)=(if pl=2 then phiSt ⟨params,bl.map FBlk.d,pl⟩ r else .error 70) from by
      show (if f=Y8 then _ else if f=YW then _ else if f=Wv then (if pl=2 then phiSt _ r else .error 70) else _)=_
      rw[if_neg g1,if_neg g2,if_pos g3])
     clear g1 g2 g3;by_cases hI:pl=2
     ·subst hI;go_wp2_with fail
      refine (ZL w3 hh.out _ 70).mono ?_;rintro e4 w4 ⟨rfl,hc,he⟩;rw[WT (by first | rfl | (simp;omega))]at hc;have k3:w4.cell? ⟨pb,3,none⟩=some (.int .i64 0):=hc.cell 3;have kl:=hc.box.lt;have hC:=hid hc;have hA:=hid (RowIn.turn hQ.out he (fun q hq hr=>(hj.out q hq).1 (.inl hr)) (fun _ _ h=>h):StrsIn w4 _ r)
      have hp:=zH (Stays (PaOwn pb bv bl) w4 (.slice ra n rc)) (hj.out.mono (fun q hq=>.inl hq) he.size);have hz:=hid (hm.out.trans he);clear hc he c1 c2 c3;go_wp2_with fail
      obtain⟨b,hb⟩:∃ b,bl[bl.length-1]? = some b:=⟨_,List.getElem?_eq_getElem (by have:=hT.out (by omega);have:0<bl.length:=List.length_pos_iff.2 this;omega)⟩
      have hu:=He.out b hb;refine (Ze2 w4 hC.out _ r hA.out hp.out (by rw[hD.out];omega) b hb (by omega) hu.1).mono ?_;rintro e5 w5 ⟨rfl,e',bl',hg,hi,ht⟩;have hv:=hid ((hz.out.mono (fun q _ hq=>.inl hq):Turn (PaOwn pb bv bl) w w4).trans hi);have hG:=hid ht;have hB:=hid hg;clear hg hi ht hb hu k3 kl;go_wp2
      go_end0
      refine⟨rfl,params,2,e',bv,bl',hB.out,hv.out,?_⟩;rw[hf.out,if_pos (by trivial)];exact V7 (fun s h=>Zbw h) hG.out
     ·have HZ:=zH (ZD ⟨params,bl.map FBlk.d,pl⟩ (f::r)=.error 70) (by rw[hf.out,if_neg hI]);go_wp2_with fail
      refine (ZL w3 hh.out _ 70).mono ?_;rintro e4 w4 ⟨rfl,hc,he⟩;rw[Xs (by first | rfl | (simp;omega))]at hc;have k3:w4.cell? ⟨pb,3,none⟩=some (.int .i64 70):=hc.cell 3;have kl:=hc.box.lt;have HF:=hid (HE.out 70 w4 HZ.out (by decide) hc (hm.out.trans he));clear hc he c1 c2 c3;go_wp2
      go_end0
      exact HF.out
    ·have q1:(f.toList==[102,117,110,99])=false:=WO g1;have q2:(f.toList==[98,108,111,99,107])=false:=VX g2;have q3:(f.toList==[112,104,105])=false:=ZcI g3;have hf:=hid (show ZD ⟨params,bl.map FBlk.d,pl⟩ (f::r)=(if 0<op then (if 2≤pl then YZ ⟨params,bl.map FBlk.d,pl⟩ op r else .error 70) else if 0<1+id then (if 2≤pl then YD ⟨params,bl.map FBlk.d,pl⟩ (1+id) r else .error 70) else .error 72) from by
      show (if f=Y8 then _ else if f=YW then _ else if f=Wv then _ else if 0<Yp f then (if 2≤pl then YZ _ (Yp f) r else .error 70) else if 0<WC f then (if 2≤pl then YD _ (WC f) r else .error 70) else .error 72)=_
      rw[if_neg g1,if_neg g2,if_neg g3,HT.out,HV.out])
     clear g1 g2 g3;by_cases ho:0<op
     ·by_cases hI:2≤pl
      ·rcases (by omega:pl=2∨pl=3) with rfl|rfl;all_goals
        go_wp2_with fail
        refine (ZL w3 hh.out _ 70).mono ?_;rintro e4 w4 ⟨rfl,hc,he⟩;rw[WT (by first | rfl | (simp;omega))]at hc;have k3:w4.cell? ⟨pb,3,none⟩=some (.int .i64 0):=hc.cell 3;have kl:=hc.box.lt;have hC:=hid hc;have hA:=hid (RowIn.turn hQ.out he (fun q hq hr=>(hj.out q hq).1 (.inl hr)) (fun _ _ h=>h):StrsIn w4 _ r)
        have hp:=zH (Stays (PaOwn pb bv bl) w4 (.slice ra n rc)) (hj.out.mono (fun q hq=>.inl hq) he.size);have hz:=hid (hm.out.trans he);clear hc he c1 c2 c3;go_wp2_with fail
        obtain⟨b,hb⟩:∃ b,bl[bl.length-1]? = some b:=⟨_,List.getElem?_eq_getElem (by have:=hT.out (by omega);have:0<bl.length:=List.length_pos_iff.2 this;omega)⟩
        have hu:=He.out b hb;refine (Ze4 w4 hC.out op (by omega) _ r hA.out hp.out (by rw[hD.out];omega) b hb (by omega) hu.2).mono ?_;rintro e5 w5 ⟨rfl,e',bl',hg,hi,ht⟩;have hv:=hid ((hz.out.mono (fun q _ hq=>.inl hq):Turn (PaOwn pb bv bl) w w4).trans hi);have hG:=hid ht;have hB:=hid (hg.put 2 (.int .i64 3) (params':=params) (pl':=3) (e':=e') (tl':=[]) rfl);have k2:w5.cell? ⟨pb,2,none⟩=some (.int .i64 _):=hg.cell 2;have kl5:=hg.box.lt;have kf5:=hg.box.frozen;clear hg hi ht hb hu k3 kl;go_wp2
        go_end0
        refine⟨rfl,params,3,e',bv,bl',hB.out,hv.out.setCell (.inl rfl) _,?_⟩;rw[hf.out,if_pos (by omega:0<op),if_pos (by decide)];exact V7 (fun s h=>ZbN h) hG.out
      ·have HZ:=zH (ZD ⟨params,bl.map FBlk.d,pl⟩ (f::r)=.error 70) (by rw[hf.out,if_pos ho,if_neg hI]);go_wp2_with fail
       refine (ZL w3 hh.out _ 70).mono ?_;rintro e4 w4 ⟨rfl,hc,he⟩;rw[Xs (by first | rfl | (simp;omega))]at hc;have k3:w4.cell? ⟨pb,3,none⟩=some (.int .i64 70):=hc.cell 3;have kl:=hc.box.lt;have HF:=hid (HE.out 70 w4 HZ.out (by decide) hc (hm.out.trans he));clear hc he c1 c2 c3;go_wp2
       go_end0
       exact HF.out
     ·by_cases hk:0<1+id
      ·by_cases hI:2≤pl
       ·rcases (by omega:pl=2∨pl=3) with rfl|rfl;all_goals
         go_wp2_with fail
         refine (ZL w3 hh.out _ 70).mono ?_;rintro e4 w4 ⟨rfl,hc,he⟩;rw[WT (by first | rfl | (simp;omega))]at hc;have k3:w4.cell? ⟨pb,3,none⟩=some (.int .i64 0):=hc.cell 3;have kl:=hc.box.lt;have hC:=hid hc;have hA:=hid (RowIn.turn hQ.out he (fun q hq hr=>(hj.out q hq).1 (.inl hr)) (fun _ _ h=>h):StrsIn w4 _ r)
         have hp:=zH (Stays (PaOwn pb bv bl) w4 (.slice ra n rc)) (hj.out.mono (fun q hq=>.inl hq) he.size);have hz:=hid (hm.out.trans he);clear hc he c1 c2 c3;go_wp2_with fail
         obtain⟨b,hb⟩:∃ b,bl[bl.length-1]? = some b:=⟨_,List.getElem?_eq_getElem (by have:=hT.out (by omega);have:0<bl.length:=List.length_pos_iff.2 this;omega)⟩
         have hu:=He.out b hb;refine (Zd1 w4 hC.out (1+id) (by omega) _ r hA.out hp.out (by rw[hD.out];omega) b hb (by omega)).mono ?_;rintro e5 w5 ⟨rfl,e',bl',hg,hi,ht⟩;have hv:=hid ((hz.out.mono (fun q _ hq=>.inl hq):Turn (PaOwn pb bv bl) w w4).trans hi);have hG:=hid ht;have hB:=hid (hg.put 2 (.int .i64 1) (params':=params) (pl':=1) (e':=e') (tl':=[]) rfl);have k2:w5.cell? ⟨pb,2,none⟩=some (.int .i64 _):=hg.cell 2;have kl5:=hg.box.lt;have kf5:=hg.box.frozen;clear hg hi ht hb hu k3 kl;go_wp2
         go_end0
         refine⟨rfl,params,1,e',bv,bl',hB.out,hv.out.setCell (.inl rfl) _,?_⟩;rw[hf.out,if_neg (by omega:¬ 0<op),if_pos (by omega:0<1+id),if_pos (by decide)];exact V7 (fun s h=>Zaz h) hG.out
       ·have HZ:=zH (ZD ⟨params,bl.map FBlk.d,pl⟩ (f::r)=.error 70) (by rw[hf.out,if_neg ho,if_pos hk,if_neg hI]);go_wp2_with fail
        refine (ZL w3 hh.out _ 70).mono ?_;rintro e4 w4 ⟨rfl,hc,he⟩;rw[Xs (by first | rfl | (simp;omega))]at hc;have k3:w4.cell? ⟨pb,3,none⟩=some (.int .i64 70):=hc.cell 3;have kl:=hc.box.lt;have HF:=hid (HE.out 70 w4 HZ.out (by decide) hc (hm.out.trans he));clear hc he c1 c2 c3;go_wp2
        go_end0
        exact HF.out
      ·have HZ:=zH (ZD ⟨params,bl.map FBlk.d,pl⟩ (f::r)=.error 72) (by rw[hf.out,if_neg ho,if_neg hk]);go_wp2_with fail
       refine (ZL w3 hh.out true 72).mono ?_;rintro e4 w4 ⟨rfl,hc,he⟩;have HF:=hid (HE.out 72 w4 HZ.out (by decide) hc (hm.out.trans he));clear hc he c1 c2 c3;go_wp2
       go_end0
       exact HF.out
 clear aK1 Hu;go_wp2
 ·obtain rfl:n=0:=by omega
  obtain rfl:r=[]:=List.eq_nil_of_length_eq_zero hD.out;exact HJ.out _ _ (.inl ⟨_,rfl,rfl⟩) (fun q hq=>Hs.out q (by cases hq;rfl))
 ·exact HJ.out _ _ (RowIn.rest HL.out) (fun q hq=>Hs.out q (by cases hq;rfl))
end
structure LnV where
 ws:List ByteArray
 wv:Value
 n:Int
def lncells (x:LnV):List Value:=[x.wv,.int .i64 x.n]
theorem XJ (x:LnV):(lncells x).length=2:=rfl
def LnV.d (x:LnV):List ByteArray × Int:=(x.ws,x.n)
def Y7 (w:World) (x:LnV):Prop:=StrsIn w x.wv x.ws
theorem Y7.keep (w w':World) (x:LnV) (h:Y7 w x) (s:Since w w'):Y7 w' x:=StrsIn.keep h s
theorem Y7.turn {S : Nat→Prop} {w w':World} {x : LnV} (h:Y7 w x) (t:Turn S w w') (hn:∀ q,x.wv.ownBlock=some q→¬ S q):Y7 w' x:=RowIn.turn (show StrsIn w x.wv x.ws from h) t hn (fun _ _ h=>h)
abbrev Zc1 (w:World) (v:Value) (l:List LnV):Prop:=RowIn lncells 2 Y7 w v l
structure LInv (base:Nat) (w:World) (ov:Value) (outl:List LnV) (lv:Value) (ll:List ByteArray):Prop where
 out:OwnRow lncells 2 121 base w ov outl
 l:OwnRow stc 1 9 base w lv ll
 each:∀ x∈outl,Y7 w x∧Stays (fun q=>lv.ownBlock=some q∨ov.ownBlock=some q) w x.wv
 small:∀ x∈ll,x.size≤1000000
section
variable {base:Nat} {w w':World} {ov lv ov' lv':Value} {outl:List LnV} {ll:List ByteArray}
theorem LInv.keep (h:LInv base w ov outl lv ll) (s:Since w w'):LInv base w' ov outl lv ll:=
 ⟨OwnRow.keep h.out s,OwnRow.keep h.l s,fun x hx=>⟨Y7.keep _ _ _ (h.each x hx).1 s,(h.each x hx).2.mono (fun q hq=>.inl hq) s.size⟩,h.small⟩
theorem LInv.push (h:LInv base w ov outl lv ll) {b : ByteArray} (hb:b.size≤1000000) (ho:OwnRow stc 1 9 base w' lv' (ll++[b])) (t:Turn (fun q=>lv.ownBlock=some q) w w') (hn:ZP w lv lv'):LInv base w' ov outl lv' (ll++[b]):=by
 refine⟨Zi h.out t fun q hq hr=>Z9 h.out h.l (by decide) q hq hr,ho,fun x hx=>?_,fun x hx=>?_⟩
 ·obtain⟨h1,h2⟩:=h.each x hx;refine⟨Y7.turn h1 t (fun q hq hr=>(h2 q hq).1 (.inl hr)),h2.mono (fun q hq=>?_) t.size⟩;rcases hq with hq|hq
  ·rcases hn q hq with h3|h3
   ·exact .inl (.inl h3)
   ·exact .inr h3
  ·exact .inl (.inr hq)
 ·rcases List.mem_append.1 hx with h1|h1
  ·exact h.small x h1
  ·rw[List.mem_singleton.1 h1];exact hb
theorem LInv.fresh (h:LInv base w ov outl lv ll) (hb:base≤w.heap.size):LInv base (w.alloc (.cells #[] 9)) ov outl (.slice (some ⟨w.heap.size,0,none⟩) 0 0) []:=by
 have s:Since w (w.alloc (.cells #[] 9)):=(Since.refl w).alloc _;refine⟨OwnRow.keep h.out s,Zaa (XH stc 1 9 w [] 0 (fun _=>rfl) rfl (by decide) _ rfl) hb,fun x hx=>?_,fun x hx=>by cases hx⟩;obtain⟨h1,h2⟩:=h.each x hx;refine⟨Y7.keep _ _ _ h1 s,fun q hq=>⟨fun hr=>?_,Nat.lt_of_lt_of_le (h2 q hq).2 s.size⟩⟩
 rcases hr with hr|hr
 ·cases hr;exact Nat.lt_irrefl _ (h2 _ hq).2
 ·exact (h2 q hq).1 (.inr hr)
theorem LInv.emit (h:LInv base w ov outl lv ll) {n : Int} (ho:OwnRow lncells 2 121 base w' ov' (outl++[⟨ll,lv,n⟩])) (t:Turn (fun q=>ov.ownBlock=some q) w w') (hn:ZP w ov ov') (hb:base≤w.heap.size):LInv base (w'.alloc (.cells #[] 9)) ov' (outl++[⟨ll,lv,n⟩]) (.slice (some ⟨w'.heap.size,0,none⟩) 0 0) []:=by
 have s:Since w' (w'.alloc (.cells #[] 9)):=(Since.refl w').alloc _;have hz:=t.size;have key:∀ x:LnV,Y7 w x→(∀ q,x.wv.ownBlock=some q→¬ ov.ownBlock=some q∧q<w.heap.size)→Y7 (w'.alloc (.cells #[] 9)) x∧Stays (fun q=>(Value.slice (some ⟨w'.heap.size,0,none⟩) 0 0).ownBlock=some q∨ov'.ownBlock=some q) (w'.alloc (.cells #[] 9)) x.wv:=fun x h1 h2=>by
  refine⟨Y7.keep _ _ _ (Y7.turn h1 t (fun q hq hr=>(h2 q hq).1 hr)) s,fun q hq=>⟨fun hr=>?_,?_⟩⟩
  ·rcases hr with hr|hr
   ·have e:w'.heap.size=q:=by cases hr;rfl
    have:=(h2 _ hq).2;omega
   ·rcases hn q hr with h3|h3
    ·exact (h2 q hq).1 h3
    ·have:=(h2 q hq).2;omega
  ·exact Nat.lt_of_lt_of_le (Nat.lt_of_lt_of_le (h2 q hq).2 hz) s.size
 refine⟨OwnRow.keep ho s,Zaa (XH stc 1 9 w' [] 0 (fun _=>rfl) rfl (by decide) _ rfl) (by omega),fun x hx=>?_,fun x hx=>by cases hx⟩;rcases List.mem_append.1 hx with h1|h1
 ·exact key x (h.each x h1).1 fun q hq=>⟨fun hr=>((h.each x h1).2 q hq).1 (.inr hr),((h.each x h1).2 q hq).2⟩
 ·rw[List.mem_singleton.1 h1];refine key _ (show StrsIn w lv ll from Yf X1 h.l fun y hy=>h.small y hy) fun q hq=>⟨fun hr=>Z9 h.l h.out (by decide) q hq hr,(World.ownsRow.lt h.l q hq).2⟩
end
end Go.Proofs.YtmhojfpidedjeaaGreatDoor
