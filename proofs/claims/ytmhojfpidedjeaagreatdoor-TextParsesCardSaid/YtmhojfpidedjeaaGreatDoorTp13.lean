import Derived.Test.YtmhojfpidedjeaaGreatDoorTp12
import Derived.Deep.MidRow
namespace Go.Proofs.YtmhojfpidedjeaaGreatDoor
open Go.RowKit Go.Lib
set_option linter.unusedVariables false
set_option maxHeartbeats 1000000
set_option maxRecDepth 100000
theorem JB {w : World} {base:Nat} {e : TypeId} {v : Value} {l : List Int} (h:w.ownsRow base e 1 v l.length (l.map (Value.int .i64))):Zm w v l:=by
 have hh:=h;obtain⟨_,h1|⟨g,cap,cur,h1,h2,h3,h4,h5,_⟩⟩:=h
 ·exact .inl ⟨none,h1.1,List.eq_nil_of_length_eq_zero h1.2⟩
 ·subst h1;have hl:=World.ownsRow.lt hh g rfl;have hc:=World.ownsRow.cells hh (g:=g) rfl;refine .inr ⟨g,0,cap,rfl,h4,h5,hl.2,fun j n hj=>?_⟩;have:=hc j (.int .i64 n) (by rw[List.getElem?_map,hj];rfl);rw[Nat.zero_add];unfold Addr.add at this;split at this
  ·rename_i h0;subst h0;exact this
  ·simpa using this
theorem ZaO {w : World} {base:Nat} {e : TypeId} {sz n g cap:Nat} {xs:List Value} (h:w.ownsRow base e sz (.slice (some ⟨g,0,none⟩) n cap) n xs) {o k:Nat} (ho:o+k≤xs.length):w.there g o k:=by
 obtain⟨cur,hc⟩:=Xz h (q:=g) rfl;intro i hi;refine⟨?_,HeapIs.frozen (show HeapIs w g cur e from hc) _⟩;have h9:=World.ownsRow.cells h (g:=g) rfl (o+i) xs[o+i] (List.getElem?_eq_getElem (by omega));unfold Addr.add at h9;split at h9
 ·rename_i h0;rw[h0];rw[h9];rfl
 ·simp only[Nat.zero_add]at h9;rw[h9];rfl
theorem KG {w : World} {g cap mm:Nat} {bl:List FBlk} {b : FBlk} (h:OwnRow fbcells 6 57 0 w (.slice (some ⟨g,0,none⟩) bl.length cap) bl) (hb:bl[mm]? = some b) (t:Zt):OwnRow fbcells 6 57 0 (w.setCells g (mm*6+2) [.int .i64 t.kind,t.argsv,t.tov,.int .i32 t.imm]) (.slice (some ⟨g,0,none⟩) bl.length cap) (bl.set mm { b with term:=t }):=by
 have e:w.setCells g (mm*6+2) [.int .i64 t.kind,t.argsv,t.tov,.int .i32 t.imm]=(((w.setCell ⟨g,mm*6+2,none⟩ (.int .i64 t.kind)).setCell ⟨g,mm*6+3,none⟩ t.argsv).setCell ⟨g,mm*6+4,none⟩ t.tov).setCell ⟨g,mm*6+5,none⟩ (.int .i32 t.imm):=rfl;rw[e];have ha:mm<bl.length:=(List.getElem?_eq_some_iff.1 hb).1;have q:∀ x:FBlk,(bl.set mm x)[mm]? = some x:=fun x=>by rw[List.getElem?_set_self ha]
 have h1:=XG h (mm*6+2) (.int .i64 t.kind);rw[WR fbcells 6 Zs bl mm 2 b { b with term:={ b.term with kind:=t.kind } } (.int .i64 t.kind) hb (by decide) rfl]at h1;have h2:=XG h1 (mm*6+3) t.argsv;rw[WR fbcells 6 Zs _ mm 3 { b with term:={ b.term with kind:=t.kind } } { b with term:={ b.term with kind:=t.kind,argsv:=t.argsv } } t.argsv (q _) (by decide) rfl,List.set_set]at h2;have h3:=XG h2 (mm*6+4) t.tov;rw[WR fbcells 6 Zs _ mm 4 { b with term:={ b.term with kind:=t.kind,argsv:=t.argsv } } { b with term:={ b.term with kind:=t.kind,argsv:=t.argsv,tov:=t.tov } } t.tov (q _) (by decide) rfl,List.set_set]at h3;have h4:=XG h3 (mm*6+5) (.int .i32 t.imm);rw[WR fbcells 6 Zs _ mm 5 { b with term:={ b.term with kind:=t.kind,argsv:=t.argsv,tov:=t.tov } } { b with term:=t } (.int .i32 t.imm) (q _) (by decide) rfl,List.set_set]at h4;unfold OwnRow;rw[List.length_set];exact h4
theorem Kz (k:Int) (n:Nat) (h:1≤k∧k≤5):Va k≤3∧(k≠4→1≤Va k)∧Jl k n≤n+3:=by
 unfold Va Jl;have:k=1∨k=2∨k=3∨k=4∨k=5:=by omega
 rcases this with rfl|rfl|rfl|rfl|rfl<;>simp
def ZfC (t:Zt):Value:=.agg #[.int .i64 t.kind,t.argsv,t.tov,.int .i32 t.imm]
def ArrL:Value:=.agg #[.int .i64 0,.int .i64 1,.int .i64 3,.int .i64 2,.int .i64 0,.int .i64 1]
def ArrM (n:Nat):Value:=.agg #[.int .i64 0,.int .i64 1,.int .i64 3,.int .i64 n,.int .i64 1,.int .i64 1]
theorem Tryz.arrL (w:World) (k:Int) (h:1≤k∧k≤5):Sem.run Tryz.prog (Instr.index 183 ArrL (.int .i64 k)) w=.ok (.int .i64 (Va k)) w:=by
 have:k=1∨k=2∨k=3∨k=4∨k=5:=by omega
 rcases this with rfl|rfl|rfl|rfl|rfl<;>rfl
theorem Tryz.arrM (w:World) (k:Int) (n:Nat) (h:1≤k∧k≤5):Sem.run Tryz.prog (Instr.index 183 (ArrM n) (.int .i64 k)) w=.ok (.int .i64 (Jl k n)) w:=by
 have:k=1∨k=2∨k=3∨k=4∨k=5:=by omega
 rcases this with rfl|rfl|rfl|rfl|rfl<;>rfl
theorem JA {α:Type} {l : List α} (h:l.length=1):∃ a,l=[a]:=by
 match l,h with
 | [a],_=>exact⟨a,rfl⟩
section
variable {w0:World} {pb:Nat} {params pl:Int} {bv:Value} {bl:List FBlk}
def ZeA (w0:World) (pb:Nat) (params pl:Int) (bv:Value) (bl:List FBlk) (k:Int) (l:List ByteArray) (w:World) (x:Ending) (w':World):Prop:=
 x=.returned (.tuple #[])∧∃ e' bl',RPa w0 pb params pl e' bv bl' w'∧Turn (PaOwn pb bv bl) w w'∧JI (YD ⟨params,bl.map FBlk.d,pl⟩ k l) e' params bl'
theorem Zd1 (w:World) (h:RPa w0 pb params pl 0 bv bl w) (kind:Int) (hz:1≤kind∧kind≤5) (v:Value) (l:List ByteArray) (hl:StrsIn w v l) (hK:Stays (PaOwn pb bv bl) w v) (hn:l.length≤400000) (b:FBlk) (hb:bl[bl.length-1]? = some b) (HH:bl.length≤1000000):Calls Tryz.prog 93 #[.pointer (some ⟨pb,0,none⟩),.int .i64 kind,v] w (ZeA w0 pb params pl bv bl kind l w):=by
 obtain⟨a,c,e1,_⟩:=RowIn.shape hl;obtain⟨n,hP⟩:∃ n,l.length=n:=⟨_,rfl⟩
 rw[hP]at e1;subst e1;have H:=hid h;have HL:=hid (fun (S:Nat→Prop) w' (hS:∀ q,S q→PaOwn pb bv bl q∨w.heap.size≤q) (t:Turn S w w')=>(RowIn.turn hl t (fun q hq hr=>by rcases hS q hr with h1 | h1;exact (hK q hq).1 h1;have:=(hK q hq).2;omega) (fun _ _ h=>h):StrsIn w' _ l))
 have HR:=hid hK;have HB:=hid hb;have hT:=hid hP;rw[hP]at hn;clear h hl hK hb hP;have HK:=hid hz;have hC:=Tryz.arrL w kind hz;have hB:=Tryz.arrM w kind n hz;have hV:=Kz kind n hz;obtain⟨L,hL⟩:∃ L,Va kind=L:=⟨_,rfl⟩
 obtain⟨M,hM⟩:∃ M,Jl kind n=M:=⟨_,rfl⟩
 rw[hL]at hC hV;rw[hM]at hB;rw[hM]at hV;obtain⟨H5,Hn,H4⟩:=hV;have H6:=hid Hn;have hf:=hid (And.intro hL hM);clear hL hM Hn hz;unfold ArrL at hC;unfold ArrM at hB;go_enter Tryz.func93,Tryz.ntmps93
 by_cases Hw:n<L∨M<n
 ·have Hz:=hid (show YD ⟨params,bl.map FBlk.d,pl⟩ kind l=.error 70 from by
   unfold YD;rw[if_neg];rw[hT.out,hf.out.1,hf.out.2];omega)
  have hY:∀ w',RPa w0 pb params pl 70 bv bl w'→Turn (fun q=>q=pb) w w'→ZeA w0 pb params pl bv bl kind l w (.returned (.tuple #[])) w':=fun w' h1 h2=>⟨rfl,70,bl,h1,h2.mono (fun q _ hq=>.inl hq),by rw[Hz.out];exact⟨rfl,by decide⟩⟩
  have h8:=hid hY;clear hY;by_cases H0:n<L
  ·go_wp2_with fail
   refine (ZL w H.out _ 70).mono ?_;rintro e1 w1 ⟨rfl,hp,ht⟩;rw[Xs (by first | rfl | (simp;omega))]at hp;have c3:w1.cell? ⟨pb,3,none⟩=some (.int .i64 70):=hp.cell 3;have hj:=hp.box.lt;have HF:=hid (h8.out w1 hp ht);clear hp ht hC hB;go_wp2
   go_end0
   exact HF.out
  ·have H2:M<n:=by omega
   go_wp2_with fail
   refine (ZL w H.out _ 70).mono ?_;rintro e1 w1 ⟨rfl,hp,ht⟩;rw[Xs (by first | rfl | (simp;omega))]at hp;have c3:w1.cell? ⟨pb,3,none⟩=some (.int .i64 70):=hp.cell 3;have hj:=hp.box.lt;have HF:=hid (h8.out w1 hp ht);clear hp ht hC hB;go_wp2
   go_end0
   exact HF.out
 ·have Ha:L≤n∧n≤M:=by omega
  clear Hw;go_wp2_with fail
  refine (ZL w H.out _ 70).mono ?_;rintro e1 w1 ⟨rfl,hp,ht⟩;rw[WT (by first | rfl | (simp;omega))]at hp;have c3:w1.cell? ⟨pb,3,none⟩=some (.int .i64 0):=hp.cell 3;have hj:=hp.box.lt;have HP:=hid hp;have HT:=hid ht;clear hp ht hC hB;go_wp2_with fail
  have Hh:Stays (fun q=>q=pb) w1 (.slice a n c):=HR.out.mono (fun q hq=>.inl (.inl hq)) HT.out.size
  refine (XF w1 HP.out _ l (HL.out _ w1 (fun q hq=>.inl (.inl hq)) HT.out) Hh (by rw[hT.out];omega)).mono ?_
  rintro e4 w4 ⟨rv,rfl,hx,Hj,Hg⟩;obtain⟨ns,hO⟩:∃ ns,numsW l=ns:=⟨_,rfl⟩
  have hG:ns.length=n:=by rw[←hO,←hT.out];unfold numsW;simp
  rw[hO,hG]at hx;obtain⟨ra,rc,HC⟩:=Ze hx;subst HC;have Hp:=hid hO;have hc:=hid hG;have hR:=hid hx;have HW:=hid Hj;have Ho:=hid (HT.out.trans Hg);clear hx Hj Hg hO hG Hh c3 hj;go_upto_region 8 with (fail)
  obtain⟨xb,hI⟩:∃ xb,w4.heap.size=xb:=⟨_,rfl⟩
  have hH:HeapIs (w4.alloc (.cells #[.int .i64 kind,.slice none 0 0,.slice none 0 0,.int .i32 0] 54)) xb #[.int .i64 kind,.slice none 0 0,.slice none 0 0,.int .i32 0] 54:=by rw[←hI];exact HeapIs.new _ _ _
  have Hs:=zH (w.heap.size≤xb) (by rw[←hI];exact Ho.out.size);have HU:=zH (pb<xb) (by have:=H.out.box.lt;have:=Hs.out;omega);obtain⟨w5,hJ⟩:∃ w5,w4.alloc (.cells #[.int .i64 kind,.slice none 0 0,.slice none 0 0,.int .i32 0] 54)=w5:=⟨_,rfl⟩
  have hN:Since w4 w5:=by rw[←hJ];exact (Since.refl _).alloc _
  rw[hJ]at hH;rw[hI,hJ];have ha:=hid hH;have HQ:=hid (Ho.out.later (Turn.since (S:=fun q=>q=pb) hN) (fun q hq=>.inl hq));have HZ:=hid (HW.out.box.keep hN);have h9:Hid (YD ⟨params,bl.map FBlk.d,pl⟩ kind l=if ZZ l then .ok ⟨params,onLast ⟨params,bl.map FBlk.d,pl⟩ (fun b=>⟨b.phis,b.ins,YE kind (numsW l)⟩),1⟩ else .error 71):=hid (by
   unfold YD;rw[if_pos];rw[hT.out,hf.out.1,hf.out.2];exact Ha)
  have hd:=hid (ZE hR.out hN);have hm:=hid (show ∀ q,(Value.slice ra n rc).ownBlock=some q→¬ (PaS w0 pb bv bl q∨q=xb)∧q<w5.heap.size from fun q hq=>⟨fun h=>by
   have h1:=World.ownsRow.lt hR.out q hq;rcases h with h|h
   ·have:=H.out.ltS q h;have:=HT.out.size;omega
   ·omega,(World.ownsRow.lt hd.out q hq).2⟩)
  have Hy:=zH (∀ y∈ns,In32W y) (fun y hy=>by rw[←Hp.out]at hy;unfold numsW at hy;obtain⟨z,_,rfl⟩:=List.mem_map.1 hy;exact YH z);clear hH hI hN hJ
  rename_i K1 aK1 K2 aK2
  have Ht:=hid aK1;have HJ:Hid (∀ {u1 u2 u3 u4 u5 u6 u7 u8 u10 u11 u12 u13 u14 u15 u16 u17 u18 u19 u20 u21 u22 u23 u24 u25 u26 u27 u28 u29 u30 u31 u32 u33 u34 u35 u36 u37 u38 u39 u40 u41 u42 u43 u44 u45 u46 u47 u48 u49 u50 u51 u52 u53 u54 u55 u56 u57 u58 u59 u60 u61 u62 u63 u64 u65 u66 u67 u68 u69 u70 u71 u72 u73 u74 u75 u76 u77:Value} {w9:World} (X:Zt),HeapIs w9 xb (ZcP X).toArray 54→Turn (fun q=>q=xb) w5 w9→WJ (fun q=>PaS w0 pb bv bl q∨q=xb) w5 X→Zt.d X=YE kind ns→K1 ⟨(Value.pointer (some ⟨pb,0,none⟩)::u1::u2::u3::u4::u5::u6::u7::u8::Value.pointer (some ⟨xb,0,none⟩)::u10::u11::u12::u13::u14::u15::u16::u17::u18::u19::u20::u21::u22::u23::u24::u25::u26::u27::u28::u29::u30::u31::u32::u33::u34::u35::u36::u37::u38::u39::u40::u41::u42::u43::u44::u45::u46::u47::u48::u49::u50::u51::u52::u53::u54::u55::u56::u57::u58::u59::u60::u61::u62::u63::u64::u65::u66::u67::u68::u69::u70::u71::u72::u73::u74::u75::u76::u77::[]).toArray,[]⟩ w9):=by
   clear aK1 aK2;apply hid
   intro u1 u2 u3 u4 u5 u6 u7 u8 u10 u11 u12 u13 u14 u15 u16 u17 u18 u19 u20 u21 u22 u23 u24 u25 u26 u27 u28 u29 u30 u31 u32 u33 u34 u35 u36 u37 u38 u39 u40 u41 u42 u43 u44 u45 u46 u47 u48 u49 u50 u51 u52 u53 u54 u55 u56 u57 u58 u59 u60 u61 u62 u63 u64 u65 u66 u67 u68 u69 u70 u71 u72 u73 u74 u75 u76 u77 w9 X He ht Hb Hc;refine Ht.out _ _ ?_;have hW:=HQ.out.later ht (fun q hq=>.inr (by subst hq;exact Hs.out))
   have hi:=H.out.reBox hW (HZ.out.turn ht (fun e=>by have:=HU.out;omega));have HO:=hid hW;have HV:=hid hi;have HN:=hid He;have hv:=Hb.turn ht (S':=PaS w0 pb bv bl) (fun q hq=>.inr hq) (fun q hq=>.inl (.inl hq))
   have HI:=hid hv;have Hx:=hid (show (#[Value.int .i64 X.kind,X.argsv,X.tov,.int .i32 X.imm]:Array Value).all (·.oneCell')=true from by
    obtain⟨za,zc,ze⟩:=Zp hv.read.1;obtain⟨ya,yc,ye⟩:=Zp hv.read.2;rw[ze,ye];simp[Value.oneCell'])
   have HM:=hid Hc;have HY:=hid (hi.last b HB.out);have hX:0<bl.length:=by
    rcases Nat.eq_zero_or_pos bl.length with h0|h0
    ·have:=(List.getElem?_eq_some_iff.1 HB.out).1;omega
    ·exact h0
   obtain⟨bb,bc,Hm,HG,Hu,_,h6,Hv,hZ⟩:=YT hi.row hX;obtain⟨mm,hA⟩:∃ mm,bl.length=mm+1:=⟨bl.length-1,by omega⟩
   rw[hA]at Hm HH HG;subst Hm;have Hk:bl.length-1=mm:=by omega
   have c1:w9.cell? ⟨pb,1,none⟩=some (.slice (some ⟨bb,0,none⟩) (mm+1) bc):=hi.cell 1;have hj:pb<w9.heap.size:=hi.box.lt;have h7:=hid (show ∀ w':World,Since w9 w'→w'.there bb (mm*6+2) 4 from fun w' hs=>by
    have h1:OwnRow fbcells 6 57 0 w' (.slice (some ⟨bb,0,none⟩) (mm+1) bc) bl:=OwnRow.keep hi.row hs;unfold OwnRow at h1;rw[hA]at h1;exact ZaO h1 (by rw[Yy fbcells 6 Zs,hA];omega))
   have HX:=hid c1;have hU:=hid Hk;have Hq:=hid hA;have Hr:=zH (pb<w9.heap.size∧bb<w9.heap.size) ⟨hj,h6⟩;clear hi hX h6 Hv hZ Hk hA Hu He ht Hb Hc hW hv c1 hj;go_wp2_with fail
   refine Zb 13 rfl (by decide +kernel) (by decide +kernel) (by decide +kernel) (by decide)
    [Is (.pointer (some ⟨pb,0,none⟩)),Is (.pointer (some ⟨pb,0,none⟩)),Is (.pointer (some ⟨pb,0,none⟩)),Is (.pointer (some ⟨pb,1,none⟩)),Is (.slice (some ⟨bb,0,none⟩) (mm+1) bc),Is (.pointer (some ⟨pb,0,none⟩)),Is (.pointer (some ⟨pb,0,none⟩)),Is (.pointer (some ⟨pb,0,none⟩)),Is (.pointer (some ⟨pb,1,none⟩)),Is (.slice (some ⟨bb,0,none⟩) (mm+1) bc),Is (.int .i64 ((mm:Int)+1)),Is (.int .i64 mm),Is (ZfC X)]
    (by repeat (first | exact trivial | refine⟨Is.stable _,?_⟩ | refine⟨ZV.stable _ _,?_⟩ | refine⟨IsRows.stable _ _,?_⟩)) ⟨?_,?_,?_,?_,?_,?_,?_,?_,?_,?_,?_,?_,?_,trivial⟩ ?_
   all_goals
    intro vs w8 hs hk;try intro _
    simp only[List.take,List.drop,putAll,Act.put,Zh,Zc,Zd,Is,List.setIfInBounds_toArray,List.set_cons_zero,List.set_cons_succ,Nat.reduceAdd]at hk ⊢;try simp only[hk]
   iterate 2
    iterate 4
     ·go_wp2
      exact⟨_,rfl,rfl,.refl _⟩
    ·have k1:w8.cell? ⟨pb,1,none⟩=some (.slice (some ⟨bb,0,none⟩) (mm+1) bc):=(hs.cell (p:=⟨pb,1,none⟩) Hr.out.1).trans HX.out;have k2:pb<w8.heap.size:=Nat.lt_of_lt_of_le Hr.out.1 hs.size;go_wp2
     exact⟨_,rfl,rfl,.refl _⟩
   iterate 2
    ·go_wp2
     exact⟨_,rfl,rfl,.refl _⟩
   ·have HD:=HN.out.keep hs;clear hk;refine wpList_load_row rfl _ _ rfl xb rfl 54 _ (0,0) _ HD Tryz.underlying54 rfl (by kernel_rfl) ?_;go_wp2
    exact⟨_,rfl,rfl,.refl _⟩
   ·have HS:=hid hs;have HA:=h7.out _ hs;clear hs hk;go_wp2_with (refine wpList_store_mid rfl 54 _ _ rfl bb (mm*6+2) #[.int .i64 X.kind,X.argsv,X.tov,.int .i32 X.imm] rfl rfl HA (by kernel_rfl) Hx.out ?_)
    go_end0
    have Hi:=HV.out.keep HS.out;have HE:=HY.out;have tc:Turn (fun q=>q=bb) w8 (w8.setCells bb (mm*6+2) [.int .i64 X.kind,X.argsv,X.tov,.int .i32 X.imm]):=
     ((((Turn.refl (fun q=>q=bb) w8).setCell (p:=⟨bb,mm*6+2,none⟩) rfl _).setCell (p:=⟨bb,mm*6+3,none⟩) rfl _).setCell (p:=⟨bb,mm*6+4,none⟩) rfl _).setCell (p:=⟨bb,mm*6+5,none⟩) rfl _
    have hQ:=Hi.last b HB.out;have Hf:=PaM.updG Hi (b':={ b with term:=X }) HB.out (bb:=bb) (cap:=bc) (by rw[Hq.out]) (Turn.refl _ _) tc (fun hr=>by
     have e:mm+1=bl.length:=Hq.out.symm;rw[e]at hr ⊢;rw[hU.out];exact KG hr (by rw[←hU.out];exact HB.out) X) hQ.phis hQ.ins (fun q hq=>.inl hq) (fun q hq=>.inl hq) hQ.phi hQ.inx (HI.out.turn (R:=fun _=>False) (Turn.since HS.out) (fun _ h=>h.elim) (fun q hq=>.inl hq))
    rw[hU.out]at Hf;refine⟨rfl,numsE 0 l,_,Hf,?_,?_⟩
    ·exact ((HO.out.mono fun q _ hq=>.inl hq:Turn (PaOwn pb _ bl) w w9).trans (Turn.since HS.out)).trans (tc.mono fun q _ hq=>.inr (.inl (by rw[hq];rfl)))
    ·rw[h9.out];unfold numsE
     cases H1:ZZ l
     ·exact⟨rfl,by decide⟩
     ·refine⟨rfl,rfl,?_⟩;have:=WP (b':={ b with term:=X }) HB.out ⟨params,bl.map FBlk.d,pl⟩ rfl (fun b=>⟨b.phis,b.ins,YE kind (numsW l)⟩) (by rw[Hp.out,←HM.out];simp[FBlk.d]);rw[hU.out]at this;exact this
  clear aK1 Ht HB h9;have HE:=ha.out.lt;have H3:=ha.out.frozen;by_cases h1:kind=1
  ·subst h1;have k2:=ha.out.cell 2;go_wp2
   refine HJ.out ⟨1,[],.slice none 0 0,ns,.slice ra n rc,0⟩ (ha.out.set 2 _) ((Turn.refl (fun q=>q=xb) w5).setCell (p:=⟨xb,2,none⟩) rfl _) ?_ ?_
   ·exact⟨⟨.nil _ _,JB (by rw[hc.out];exact hd.out)⟩,Stays.nil _ _,hm.out⟩
   ·simp[YE,Zt.d]
  ·skip
   by_cases h2:kind=2
   ·subst h2;obtain⟨rfl,rfl⟩:L=3∧M=3:=⟨hf.out.1.symm,hf.out.2.symm⟩;obtain⟨g,gc,hD,Hl,hh,hF,hE,_,hg⟩:=YT hd.out (by omega)
    cases hD
    have he:=hid hg;have ho:=hid hE;have hu:=hid hh;clear hg hh hF;have k1:=ha.out.cell 1;have k2:=ha.out.cell 2;go_wp2
    refine HJ.out ⟨2,ns.take 1,.slice (some ⟨g,0,none⟩) 1 rc,ns.drop 1,.slice (some ⟨g,1,none⟩) (n-1) (rc-1),0⟩ ((ha.out.set 1 _).set 2 _) (((Turn.refl (fun q=>q=xb) w5).setCell (p:=⟨xb,1,none⟩) rfl _).setCell (p:=⟨xb,2,none⟩) rfl _) ?_ ?_
    ·exact⟨⟨Yz he.out ho.out 0 1 rc (by rw[hc.out];omega) (by omega) hu.out,X4 he.out ho.out 1 (n-1) (rc-1) (by rw[hc.out];omega) (by rw[hc.out]) (by omega) (by have:=hu.out;omega)⟩,fun q hq=>hm.out q (by cases hq;rfl),fun q hq=>hm.out q (by cases hq;rfl)⟩
    ·simp[YE,Zt.d]
   ·skip
    by_cases h3:kind=3
    ·subst h3;obtain rfl:L=2:=hf.out.1.symm;obtain⟨g,gc,hD,Hl,hh,hF,hE,_,hg⟩:=YT hd.out (by omega)
     cases hD
     have he:=hid hg;have ho:=hid hE;have hu:=hid hh;clear hg hh hF;have k1:=ha.out.cell 1;have k2:=ha.out.cell 2;go_wp2
     refine HJ.out ⟨3,ns.take 1,.slice (some ⟨g,0,none⟩) 1 rc,ns.drop 1,.slice (some ⟨g,1,none⟩) (n-1) (rc-1),0⟩ ((ha.out.set 1 _).set 2 _) (((Turn.refl (fun q=>q=xb) w5).setCell (p:=⟨xb,1,none⟩) rfl _).setCell (p:=⟨xb,2,none⟩) rfl _) ?_ ?_
     ·exact⟨⟨Yz he.out ho.out 0 1 rc (by rw[hc.out];omega) (by omega) hu.out,X4 he.out ho.out 1 (n-1) (rc-1) (by rw[hc.out];omega) (by rw[hc.out]) (by omega) (by have:=hu.out;omega)⟩,fun q hq=>hm.out q (by cases hq;rfl),fun q hq=>hm.out q (by cases hq;rfl)⟩
     ·simp[YE,Zt.d]
    ·skip
     by_cases h4:kind=4
     ·subst h4;have k1:=ha.out.cell 1;go_wp2
      refine HJ.out ⟨4,ns,.slice ra n rc,[],.slice none 0 0,0⟩ (ha.out.set 1 _) ((Turn.refl (fun q=>q=xb) w5).setCell (p:=⟨xb,1,none⟩) rfl _) ?_ ?_
      ·exact⟨⟨JB (by rw[hc.out];exact hd.out),.nil _ _⟩,hm.out,Stays.nil _ _⟩
      ·simp[YE,Zt.d]
     ·skip
      obtain h5:kind=5:=by have:=HK.out;omega
      subst h5;obtain⟨rfl,rfl⟩:L=1∧M=1:=⟨hf.out.1.symm,hf.out.2.symm⟩;obtain rfl:n=1:=by omega
      obtain⟨g,gc,hD,Hl,hh,hF,hE,_,hg⟩:=YT hd.out (by omega)
      cases hD
      have he:=hid hg;have ho:=hid hE;have hu:=hid hh;clear hg hh hF;obtain⟨x0,rfl⟩:=JA hc.out;have c0:w5.cell? ⟨g,0,none⟩=some (.int .i64 x0):=he.out 0 _ rfl;have wr0:wrap32 x0=x0:=Y2 (Hy.out x0 (by simp));have k3:=ha.out.cell 3;go_wp2
      refine HJ.out ⟨5,[],.slice none 0 0,[],.slice none 0 0,x0⟩ (ha.out.set 3 _) ((Turn.refl (fun q=>q=xb) w5).setCell (p:=⟨xb,3,none⟩) rfl _) ?_ ?_
      ·exact⟨⟨.nil _ _,.nil _ _⟩,Stays.nil _ _,Stays.nil _ _⟩
      ·simp[YE,Zt.d]
end
end Go.Proofs.YtmhojfpidedjeaaGreatDoor
