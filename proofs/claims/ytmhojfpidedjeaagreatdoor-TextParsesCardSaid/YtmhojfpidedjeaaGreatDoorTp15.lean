import Derived.Test.YtmhojfpidedjeaaGreatDoorTp14
namespace Go.Proofs.YtmhojfpidedjeaaGreatDoor
open Go.RowKit Go.Lib
set_option linter.unusedVariables false
set_option maxHeartbeats 8000000
set_option maxRecDepth 100000
abbrev TPa (w0:World) (pb:Nat) (tv:Value) (params pl e:Int) (bv:Value) (bl:List FBlk) (w:World):Prop:=PaM 93 w0 pb [tv] params pl e bv bl w
def Zho (w0:World) (pb:Nat) (tv:Value) (params pl e:Int) (bv:Value) (bl:List FBlk) (w:World) (x:Ending) (w':World):Prop:=x=.returned (.bool (e==0))∧TPa w0 pb tv params pl e bv bl w'∧Turn (fun q=>q=pb) w w'
section
variable {w0:World} {pb:Nat} {tv:Value} {params pl e:Int} {bv:Value} {bl:List FBlk}
theorem Zw (w:World) (h:TPa w0 pb tv params pl e bv bl w) (b:Bool) (n:Int) (hn:n≠0):Calls Tryz.prog 76 #[.pointer (some ⟨pb,0,none⟩),.bool b,.int .i64 n] w (Zho w0 pb tv params pl (Yj e (!b) n) bv bl w):=by
 have c3:w.cell? ⟨pb,3,none⟩=some (.int .i64 e):=h.cell 3;have hl:=h.box.lt;have hz:=h.box.frozen 3;have H:=hid h;clear h
 cases b with
 | true =>
  have he:Yj e (!true) n=e:=by unfold Yj;rw[if_neg (by simp)]
  rw[he];clear he;go_enter Tryz.func76,Tryz.ntmps76
  go_wp2
  go_ret
  exact⟨rfl,H.out,Turn.refl _ _⟩
 | false =>
  by_cases he:e=0
  ·subst he;have e1:Yj 0 (!false) n=n:=by unfold Yj;rw[if_pos ⟨rfl,rfl⟩]
   rw[e1];have HP:=hid (H.out.put 3 (.int .i64 n) (params':=params) (pl':=pl) (e':=n) (tl':=[tv]) rfl);have ha:(n==0)=false:=by simpa using hn
   have h9:=HP.out.cell 3;have h9:(w.setCell ⟨pb,3,none⟩ (.int .i64 n)).cell? ⟨pb,3,none⟩=some (.int .i64 n):=h9;clear e1 hn;go_enter Tryz.func76,Tryz.ntmps76
   go_wp2
   go_ret
   exact⟨by rw[ha];rfl,HP.out,(Turn.refl (fun q=>q=pb) w).setCell (p:=⟨pb,3,none⟩) rfl _⟩
  ·have h1:(e==0)=false:=by simpa using he
   have e1:Yj e (!false) n=e:=by unfold Yj;rw[if_neg (fun h=>he h.2)]
   rw[e1];clear he e1;go_enter Tryz.func76,Tryz.ntmps76
   go_wp2
   go_ret
   exact⟨by rw[h1];rfl,H.out,Turn.refl _ _⟩
end
def Zg4 (w0:World) (pb:Nat) (tv:Value) (params pl e:Int) (bv:Value) (bl:List FBlk) (l:List ByteArray) (w:World) (x:Ending) (w':World):Prop:=
 ∃ rv,x=.returned rv∧w'.ownsRow w.heap.size 3 1 rv (numsW l).length ((numsW l).map (Value.int .i64))∧TPa w0 pb tv params pl (numsE e l) bv bl w'∧Turn (fun q=>q=pb) w w'
section
variable {w0:World} {pb:Nat} {tv:Value} {params pl e:Int} {bv:Value} {bl:List FBlk}
theorem Wj (w:World) (h:TPa w0 pb tv params pl e bv bl w) (hL:Ys w0) (v:Value) (l:List ByteArray) (hl:StrsIn w v l) (hs:Stays (fun q=>q=pb) w v) (hn:l.length≤500000):Calls Tryz.prog 77 #[.pointer (some ⟨pb,0,none⟩),v] w (Zg4 w0 pb tv params pl e bv bl l w):=by
 obtain⟨a,c,e1,_⟩:=RowIn.shape hl;obtain rfl:v=.slice a l.length c:=e1;have H:=hid h;have HL:=hid (fun w' (t:Turn (fun q=>q=pb) w w')=>(RowIn.turn hl t (fun q hq hr=>(hs q hq).1 hr) (fun _ _ h=>h):StrsIn w' _ l))
 have hV:=hid hL;clear h hl hs hL;go_enter Tryz.func77,Tryz.ntmps77
 go_wp2_with fail
 go_loopw [5,13] (fun oo io wr=>∃ (k:Nat) (out:Value),out=oo∧io=.int .i64 k∧k≤l.length∧wr.ownsRow w.heap.size 3 1 out (numsW (l.take k)).length ((numsW (l.take k)).map (Value.int .i64))∧TPa w0 pb tv params pl (numsE e (l.take k)) bv bl wr∧Turn (fun q=>q=pb) w wr) (fun _ io _=>l.length-(intOf io).toNat)
 case atStart =>
  refine⟨0,_,rfl,rfl,Nat.zero_le _,?_,?_,(Turn.refl _ _).alloc _⟩
  ·exact XH (fun x:Int=>[Value.int .i64 x]) 1 3 w [] 0 (fun _=>rfl) rfl (by decide) _ rfl
  ·rw[List.take_zero,ZaP];exact H.out.keep ((Since.refl _).alloc _)
 case round =>
  obtain⟨k,out,rfl,rfl,hk,ho,hp,ht⟩:=hrel;by_cases hQ:k<l.length
  ·obtain⟨b,off,x,rfl,hb,hx,hc,hM⟩:=StrsIn.at (HL.out wr ht) hQ;obtain⟨nv,he⟩:∃ n,ZS x=n:=⟨_,rfl⟩
   obtain⟨ok,hm⟩:∃ b,Ya x=b:=⟨_,rfl⟩
   have ha:Calls Tryz.prog 102 #[.string x] wr fun e w'=>e=.returned (.tuple #[.int .i32 (ZS x),.bool (Ya x)])∧Since wr w':=Zc2 x wr (by omega) (hV.out.keep hp.old).s
   rw[he,hm]at ha;have hP:=(YH x).1;have hO:=(YH x).2;rw[he]at hP hO;have hv:=QA e hx;rw[hm]at hv;have hu:=Qz hx;rw[he]at hu;have hW:=hid hv;have hT:=hid hu;have hy:=hid ha;have HP:=hid hp;have HO:=hid ho;have HT:=hid ht;have hh:=H.out.box.lt;have hG:=hid hh;clear hv hu ha hp ho ht hh he hm hx hM;go_wp2_with fail
   refine hy.out.mono ?_;rintro e2 w2 ⟨rfl,hg⟩;have hH:=hid (HP.out.keep hg);have hF:=hid hg;clear hg hc hb;go_wp2_with fail
   refine (Zw w2 hH.out ok 71 (by decide)).mono ?_;rintro e3 w3 ⟨rfl,hi,hf⟩;rw[hW.out]at hi;have hB:=Zi (ZE HO.out hF.out) hf fun q hq hr=>by have:=(World.ownsRow.lt HO.out q hq).1;have:=hG.out;omega
   have hY:=hid (hi.box.keep ((Since.refl w3).alloc (.cells #[.int .i64 nv] 3)));have hJ:=hid (ZE hB ((Since.refl w3).alloc (.cells #[.int .i64 nv] 3)));have hE:=hid ((HT.out.later (Turn.since (S:=fun q=>q=pb) hF.out) (fun _ h=>.inl h)).trans hf |>.alloc (.cells #[.int .i64 nv] 3));have hU:=hid (XT (k:=.i64) (w:=w3.alloc (.cells #[.int .i64 nv] 3)) (b:=w3.heap.size) [nv] 3 1 (by simp) (by decide) (cs:=[.int .i64 nv]) (Z2 w3 _) (fun j n hj=>by match j,hj with | 0,hj=>simp at hj;subst hj;rfl));have hR:=zH (w.heap.size≤(w3.alloc (.cells #[.int .i64 nv] 3)).heap.size) hE.out.size;have hK:=zH ((numsW (l.take k)).length + [nv].length≤1000000) (by unfold numsW;simp only[List.length_map,List.length_take,List.length_cons,List.length_nil];omega);clear hi hf hB HP hH HO hy;go_wp2_with (at_builtin;refine Zl .i64 rfl _ _ 32 rfl 3 (.int .i64 0) 8 Tryz.underlying32 Tryz.infoInt rfl (by decide) _ _ (numsW (l.take k)) [nv] rfl rfl hJ.out hU.out hK.out hR.out ?_;intro v2 w4 hA hz hN;have hI:=hid hA;have hD:=hid hz;clear hA hz hN)
   have hd:∀ q,out.ownBlock=some q→w.heap.size≤q:=fun q hq=>(World.ownsRow.lt hJ.out q hq).1
   have hX:=hid (hY.out.turn hD.out fun hq=>by have:=hd pb hq;have:=hG.out;omega);have hC:=hid (hE.out.later hD.out fun q hq=>.inr (hd q hq))
   have hS:=hid (H.out.reBox hC.out hX.out);rw[←hT.out]at hI;clear hd
   go_roundw
   case rel=>exact⟨k+1,_,rfl,by go_num,by omega,hI.out,hS.out,hC.out⟩
   case measure=>simp[intOf];omega
  ·obtain rfl:l.length=k:=by omega
   rw[List.take_length]at ho hp;have HP:=hid hp;have HO:=hid ho;have HT:=hid ht;clear hp ho ht;go_wp2
   go_ret
   exact⟨_,rfl,HO.out,HP.out,HT.out⟩
end
theorem K0 (w:World) {pb bb m bc:Nat} (c1:w.cell? ⟨pb,1,none⟩=some (.slice (some ⟨bb,0,none⟩) (m+1) bc)) (hl:pb<w.heap.size) (hm:m≤1000000):Calls Tryz.prog 106 #[.pointer (some ⟨pb,0,none⟩)] w fun e w'=>e=.returned (.pointer (some ⟨bb,m*6,none⟩))∧Since w w':=by
 go_enter Tryz.func106,Tryz.ntmps106
 go_wp2_with fail
 refine Zb 13 rfl (by decide +kernel) (by decide +kernel) (by decide +kernel) (by decide)
  [Is (.pointer (some ⟨pb,0,none⟩)),Is (.pointer (some ⟨pb,0,none⟩)),Is (.pointer (some ⟨pb,0,none⟩)),Is (.pointer (some ⟨pb,1,none⟩)),Is (.slice (some ⟨bb,0,none⟩) (m+1) bc),Is (.pointer (some ⟨pb,0,none⟩)),Is (.pointer (some ⟨pb,0,none⟩)),Is (.pointer (some ⟨pb,0,none⟩)),Is (.pointer (some ⟨pb,1,none⟩)),Is (.slice (some ⟨bb,0,none⟩) (m+1) bc),Is (.int .i64 ((m+1:Nat):Int)),Is (.int .i64 m),Is (.pointer (some ⟨bb,m*6,none⟩))]
  (by repeat (first | exact trivial | refine⟨Is.stable _,?_⟩ | refine⟨Any.stable,?_⟩)) ⟨?_,?_,?_,?_,?_,?_,?_,?_,?_,?_,?_,?_,?_,trivial⟩ ?_
 rotate_right
 ·intro vs w8 hs hk;simp only[List.take,List.drop,putAll,Act.put,Zc,Zd,Is,List.setIfInBounds_toArray,List.set_cons_zero,List.set_cons_succ,Nat.reduceAdd]at hk ⊢;try simp only[hk]
  go_wp2
  go_ret
  exact⟨rfl,hs⟩
 all_goals
  intro vs w8 hs hk _;simp only[List.take,putAll,Act.put,Zh,Zd,Is,List.setIfInBounds_toArray,List.set_cons_zero,List.set_cons_succ,Nat.reduceAdd]at hk ⊢;try simp only[hk]
 iterate 2
  iterate 4
   ·go_wp2
    exact⟨_,rfl,rfl,.refl _⟩
  ·have k1:=(hs.cell (p:=⟨pb,1,none⟩) hl).trans c1;have k2:=Nat.lt_of_lt_of_le hl hs.size;go_wp2
   exact⟨_,rfl,rfl,.refl _⟩
 iterate 3
  ·go_wp2
   exact⟨_,rfl,rfl,.refl _⟩
def WN (x:ByteArray):Bool:=((colons x:Nat):Int) != 1
theorem Zf9 (s:ByteArray) (w:World) (hs:s.size≤1000000):Calls Tryz.prog 103 #[.string s] w fun e w'=>e=.returned (.bool (WN s))∧w'=w:=by
 have HC:=hid (Tryz.strings_Count_one s 58 w);go_enter Tryz.func103,Tryz.ntmps103
 go_wp2_with fail
 refine HC.out.mono ?_;rintro e w1 ⟨rfl,rfl⟩;go_wp2
 go_ret
 exact⟨rfl,rfl⟩
def OddAt (l:List ByteArray) (w:World) (e:Ending) (w':World):Prop:=∃ r:Int,e=.returned (.int .i64 r)∧decide (r≥0)=l.any WN∧w'=w
theorem ZbD (v:Value) (l:List ByteArray) (w:World) (h:StrsIn w v l) (hn:l.length≤1000000):Calls Tryz.prog 123 #[v,.func (.func 103) #[] #[]] w (OddAt l w):=by
 obtain⟨a,c,e1,_⟩:=RowIn.shape h;obtain rfl:v=.slice a l.length c:=e1;have HL:=hid h;clear h;go_enter Tryz.func123,Tryz.ntmps123
 go_wp2_with fail
 go_loop [8] (fun i=>∃ k:Nat,k≤l.length∧i=.int .i64 k∧(l.take k).any WN=false) (fun i=>l.length-(intOf i).toNat)
 case atStart=>exact⟨0,Nat.zero_le _,rfl,rfl⟩
 case round =>
  obtain⟨k,hk,rfl,ha⟩:=hrel;by_cases hg:k<l.length
  ·obtain⟨b,off,x,rfl,hb,hx,hc,he⟩:=StrsIn.at HL.out hg;have hi:=zH ((l.take (k+1)).any WN=WN x) (by rw[List.take_add_one,hx];simp[ha]);have hh:=hid (List.mem_of_getElem? hx);obtain⟨o,ho⟩:∃ o,WN x=o:=⟨_,rfl⟩
   have hd:=Zf9 x w he;rw[ho]at hd;have hf:=hid hd;have HO:=hid ho;clear hx he ha ho hd
   cases o with
   | true =>
    go_wp2_with fail
    refine hf.out.mono ?_;rintro e w1 ⟨rfl,rfl⟩;go_wp2
    go_ret
    exact⟨k,rfl,by rw[List.any_eq_true.2 ⟨x,hh.out,HO.out⟩];simp,rfl⟩
   | false =>
    go_wp2_with fail
    refine hf.out.mono ?_;rintro e w1 ⟨rfl,rfl⟩;go_wp2
    go_round
    case rel=>exact⟨k+1,by omega,by go_num,by rw[hi.out,HO.out]⟩
    case measure=>simp[intOf];omega
  ·obtain rfl:l.length=k:=by omega
   rw[List.take_length]at ha;have hj:=hid ha;clear ha;go_wp2
   go_ret
   exact⟨-1,rfl,by rw[hj.out];rfl,rfl⟩
theorem Zfe (v:Value) (l:List ByteArray) (w:World) (h:StrsIn w v l) (hn:l.length≤1000000):Calls Tryz.prog 105 #[v,.func (.func 103) #[] #[]] w fun e w'=>e=.returned (.bool (l.any WN))∧w'=w:=by
 have HC:=hid (ZbD v l w h hn);clear h;go_enter Tryz.func105,Tryz.ntmps105
 go_wp2_with fail
 refine HC.out.mono ?_;rintro e w1 ⟨r,rfl,hr,rfl⟩;have HR:=hid hr;clear hr;go_wp2
 go_ret
 exact⟨by rw[←HR.out];rfl,rfl⟩
def ZdG (w0:World) (pb:Nat) (tv:Value) (params pl:Int) (bv:Value) (bl:List FBlk) (l:List ByteArray) (w:World) (x:Ending) (w':World):Prop:=
 x=.returned (.tuple #[])∧∃ e' bl',TPa w0 pb tv params pl e' bv bl' w'∧Turn (PaOwn pb bv bl) w w'∧JI (phiSt ⟨params,bl.map FBlk.d,pl⟩ l) e' params bl'
theorem Zaf:∀ r:List ByteArray,r.any WN = !(r.all (fun w=>colons w==1))
 | []=>rfl
 | x::r=>by
  have h:WN x = !(colons x==1):=by
   unfold WN;by_cases hc:colons x=1
   ·rw[hc];rfl
   ·have h2:((colons x:Nat):Int)≠1:=by omega
    rw[bne_iff_ne.2 h2,beq_eq_false_iff_ne.2 hc];rfl
  rw[List.any_cons,List.all_cons,Zaf r,h,Bool.not_and]
theorem Zf0 {d : ByteArray} {r : List ByteArray} (s:PSt) (h:r.any WN=true):phiSt s (d::r)=.error 70:=by
 rw[Zaf]at h;show (if r.all (fun w=>colons w==1)=true then _ else _)=_
 rw[if_neg (by simpa using h)]
theorem Ze9 {d : ByteArray} {r : List ByteArray} (s:PSt) (h:r.any WN=false):phiSt s (d::r)=if Ya d&&r.all Wa then .ok ⟨s.params,onLast s (fun b=>⟨b.phis++[⟨ZS d,r.map Xy⟩],b.ins,b.term⟩),s.pl⟩ else .error 71:=by
 rw[Zaf]at h;have h2:r.all (fun w=>colons w==1)=true:=by simpa using h
 show (if r.all (fun w=>colons w==1)=true then _ else _)=_
 rw[if_pos h2]
theorem ZeU (w : World) (d : ByteArray) (T : TypeId) (h1 : d.size ≤ 1000000) : StrsIn (w.alloc (.cells #[.string d] T)) (.slice (some ⟨w.heap.size, 0, none⟩) 1 1) [d] := by
  have hb : HeapIs (w.alloc (.cells #[.string d] T)) w.heap.size #[.string d] T := HeapIs.new _ _ _
  refine .inr ⟨w.heap.size, 0, 1, rfl, Nat.le_refl _, by decide, hb.lt, fun j y hj => ?_⟩
  match j, hj with
  | 0, hj => obtain rfl : d = y := by simpa using hj
             exact ⟨fun t ht => by obtain rfl : t = 0 := by omega
                                   exact hb.cell 0, h1⟩
  | j + 1, hj => simp at hj
def Zht (s:ByteArray) (w:World) (e:Ending) (w':World):Prop:=∃ ok,e=.returned (.tuple #[.string (YQ s),.string (Yv s),.bool ok])∧Since w w'
theorem QI (w:World) (k:Nat):Since w (w.drewN k):=⟨rfl,rfl,rfl,by simp[World.drewN],fun i hi=>by simp[World.drewN]⟩
theorem Zgs (s:ByteArray) (w:World) (hs:s.size≤1000000) (hL:Ys w):Calls Tryz.prog 68 #[.string s,.string ⟨#[58]⟩] w (Zht s w):=by
 obtain⟨m,hm⟩:=hL.mx;refine (Tryz.strings_Cut s ⟨#[58]⟩ m w (by omega) hm).mono ?_;rintro e w' ⟨rfl,k,rfl⟩;have h:=Kb 58 s.data.toList;refine⟨(Lib.cut s.data.toList [58]).2.2,?_,QI w k⟩;have e1:(⟨(Lib.cut s.data.toList [58]).1.toArray⟩:ByteArray)=YQ s:=by unfold YQ;rw[h.1]
 have e2:(⟨(Lib.cut s.data.toList [58]).2.1.toArray⟩:ByteArray)=Yv s:=by unfold Yv;rw[h.2]
 rw[←e1,←e2]
section
variable {w0:World} {pb:Nat} {tv:Value} {params pl:Int} {bv:Value} {bl:List FBlk}
theorem Zf1 (w:World) (h:TPa w0 pb tv params pl 0 bv bl w) (a:Option Addr) (c:Nat):Calls Tryz.prog 78 #[.pointer (some ⟨pb,0,none⟩),.slice a 0 c] w (ZdG w0 pb tv params pl bv bl [] w):=by
 have H:=hid h;clear h;go_enter Tryz.func78,Tryz.ntmps78
 go_wp2_with fail
 refine (Zw w H.out _ 70 (by decide)).mono ?_;rintro e1 w1 ⟨rfl,hp,ht⟩;have HP:=hid hp;have HT:=hid ht;clear hp ht;go_wp2
 go_end0
 exact⟨rfl,70,bl,HP.out,HT.out.mono (fun q _ hq=>.inl hq),rfl,by decide⟩
theorem Zfa (w:World) (h:TPa w0 pb tv params pl 0 bv bl w) (hL:Ys w0) (v:Value) (d:ByteArray) (r:List ByteArray) (hl:StrsIn w v (d::r)) (Hj:Stays (PaOwn pb bv bl) w v) (hn:r.length≤400000) (b:FBlk) (hb:bl[bl.length-1]? = some b) (h8:bl.length≤1000000) (h7:b.phis.length≤1000000):Calls Tryz.prog 78 #[.pointer (some ⟨pb,0,none⟩),v] w (ZdG w0 pb tv params pl bv bl (d::r) w):=by
 obtain⟨a,c,e1,_⟩:=RowIn.shape hl;obtain⟨n,hA⟩:∃ n,r.length=n:=⟨_,rfl⟩
 rw[List.length_cons,hA]at e1;subst e1;obtain⟨vb,vo,x0,ha,hW,HS,hy,H3⟩:=StrsIn.at hl (k:=0) (by simp);obtain rfl:d=x0:=by simpa using HS
 subst ha;rw[Nat.add_zero]at hy;have Ta:n+1≤c:=by
  rcases hl with ⟨_,_,h2⟩|⟨_,_,_,h1,h2,_⟩
  ·cases h2
  ·cases h1;rw[List.length_cons,hA]at h2;exact h2
 obtain⟨ra,HZ⟩:∃ ra,(if c=1 then some (⟨vb,vo,none⟩:Addr) else some ⟨vb,vo+1,none⟩)=ra:=⟨_,rfl⟩
 have Hl:∀ q,(Value.slice ra n (c-1)).ownBlock=some q→q=vb:=fun q hq=>by
  rw[←HZ]at hq;by_cases h1:c=1
  ·rw[if_pos h1]at hq;cases hq;rfl
  ·rw[if_neg h1]at hq;cases hq;rfl
 have he:StrsIn w (.slice ra n (c-1)) r:=by
  rw[←HZ];by_cases h1:c=1
  ·rw[if_pos h1];have:n=0:=by omega
   subst this;subst h1;exact .inl ⟨_,rfl,List.length_eq_zero_iff.1 hA⟩
  ·rw[if_neg h1];exact RowIn.rest hl
 have t8:min ((n:Int)+1) 1=1:=by omega
 have Tl:=hid Hl;have tY:=hid he;have H:=hid h;have HL:=hid (fun (S:Nat→Prop) w' (hS:∀ q,S q→PaOwn pb bv bl q∨w.heap.size≤q) (t:Turn S w w')=>(RowIn.turn he t (fun q hq hr=>by have:=Hl q hq;subst this;rcases hS _ hr with h1 | h1;exact (Hj _ rfl).1 h1;omega) (fun _ _ h=>h):StrsIn w' _ r))
 have tO:=hid Hj;have HB:=hid hb;have He:=hid hA;have hV:=hid hL;have Tj:=hid hW;have t0:=hid H3;have t6:0<n+1:=Nat.succ_pos n;rw[hA]at hn;clear h hl Hj hb hA hL H3 HS Hl he;obtain⟨o,ho⟩:∃ o,r.any WN=o:=⟨_,rfl⟩
 have hT:=Zfe (.slice ra n (c-1)) r w tY.out (by rw[He.out];omega);rw[ho]at hT;have tw:=hid hT;have HO:=hid ho;clear hT ho;go_enter Tryz.func78,Tryz.ntmps78
 go_wp2_with fail
 refine tw.out.mono ?_;rintro e1 w1 ⟨rfl,tC⟩;obtain rfl:w=w1:=tC.symm
 cases o with
 | true =>
  go_wp2_with fail
  refine (Zw _ H.out _ 70 (by decide)).mono ?_;rintro e1 w1 ⟨rfl,hp,ht⟩;have HP:=hid hp;have HT:=hid ht;have t3:=hid (Zf0 (d:=d) ⟨params,bl.map FBlk.d,pl⟩ HO.out);clear hp ht;go_wp2
  go_end0
  exact⟨rfl,70,bl,HP.out,HT.out.mono (fun q _ hq=>.inl hq),by rw[t3.out];exact⟨rfl,by decide⟩⟩
 | false =>
  go_wp2_with fail
  refine (Zw _ H.out _ 70 (by decide)).mono ?_;rintro e1 w1 ⟨rfl,hp,ht⟩;have hp:TPa w0 pb tv params pl 0 bv bl w1:=hp;have HP:=hid hp;have HT:=hid ht;have tZ:=hid (Ze9 (d:=d) ⟨params,bl.map FBlk.d,pl⟩ HO.out);have hJ:w1.cell? ⟨vb,vo,none⟩=some (.string d):=(ht.cell hW (fun e=>(tO.out vb rfl).1 (.inl e))).trans hy
  have tl:=Nat.lt_of_lt_of_le hW ht.size;clear hp ht hy hW;go_wp2_with fail
  have hM:=(Since.refl w1).alloc (.cells #[.string d] 9);have hu:Stays (fun q=>q=pb) (w1.alloc (.cells #[.string d] 9)) (.slice (some ⟨w1.heap.size,0,none⟩) 1 1):=fun q hq=>by cases hq;exact⟨fun e=>by have:=HP.out.box.lt;have e2:w1.heap.size=pb:=e;omega,(HeapIs.new w1 _ _).lt⟩
  refine (Wj _ (HP.out.keep hM) hV.out _ [d] (ZeU w1 d _ t0.out) hu (by simp)).mono ?_;rintro e4 w4 ⟨rv,rfl,he,Hp,HW⟩;rw[ZaK d r]at Hp;obtain⟨g4,c4,rfl,Th,Tg,tK,tJ,H2⟩:=WM (show w4.ownsRow _ _ 1 _ 1 [.int .i64 (ZS d)] from he);obtain⟨dn,Hz⟩:∃ dn,ZS d=dn:=⟨_,rfl⟩
  rw[Hz]at H2;have t1:=hid Hz;have tV:=hid Hp;have td:=hid ((HT.out.alloc (.cells #[.string d] 9)).trans HW);clear he Hp HW Hz tK hJ tl hM hu;go_wp2_with fail
  obtain⟨xb,hF⟩:∃ xb,w4.heap.size=xb:=⟨_,rfl⟩
  have Ti:=hid hF;have HD:HeapIs (w4.alloc (.cells #[.int .i64 dn,.slice none 0 0] 60)) xb #[.int .i64 dn,.slice none 0 0] 60:=by rw[←hF];exact HeapIs.new _ _ _
  have tB:=hid HD;have hM:w.heap.size≤xb:=by rw[←hF];exact td.out.size
  have Hf:=hid hM;rw[hF];clear HD hF H2 tJ hM
  go_loopw [40] (fun io w9=>∃ (k:Nat) (inv:Value),io=.int .i64 k∧k≤n∧HeapIs w9 xb #[.int .i64 dn,inv] 60∧OwnRow prcells 2 71 w.heap.size w9 inv ((r.take k).map Xy)∧TPa w0 pb tv params pl (VI d r k) bv bl w9∧Turn (fun q=>q=pb) w w9) (fun io _=>n-(intOf io).toNat)
  case atStart=>exact⟨0,_,rfl,by omega,tB.out,OwnRow.nil _ _ _ _ _,tV.out.keep ((Since.refl _).alloc _),td.out.alloc _⟩
  case round =>
   obtain⟨k,inv,rfl,hk,HR,hZ,hh,HV⟩:=hrel;obtain⟨ia,ic,Hy⟩:=Ze hZ;obtain⟨ps,hm⟩:∃ ps,(r.take k).map Xy=ps:=⟨_,rfl⟩
   rw[hm]at hZ Hy;obtain⟨il,h3⟩:∃ il,ps.length=il:=⟨_,rfl⟩
   have Hc:=hid hm;rw[h3]at Hy;subst Hy;have t9:il≤400000:=by rw[←h3,←hm,List.length_map,List.length_take];omega
   clear hm;have HN:=hid h3;have H8:=hid HR;have hi:=hid hZ;have hC:=hid hh;have HG:=hid HV;clear h3 HR hZ hh HV;by_cases tG:k<n
   ·obtain⟨bx,off,x,e9,HC,hx,hc,Hg⟩:=StrsIn.at (HL.out _ wr (fun q hq=>.inl (.inl hq)) HG.out) (by rw[He.out];exact tG)
    subst e9;have H7:=hid hx;have tA:=hid (Zgs x wr Hg (hV.out.keep hC.out.old));have tN:=hid Hg;clear hx Hg;go_wp2_with fail
    refine tA.out.mono ?_;rintro e5 w5 ⟨cok,rfl,HX⟩;have HI:=hid HX;clear HX hc HC;obtain⟨fx,h5⟩:∃ fx,YQ x=fx:=⟨_,rfl⟩
    obtain⟨gx,h4⟩:∃ gx,Yv x=gx:=⟨_,rfl⟩
    have h1:=QE x;have h2:=KP x;have tj:=zH (fx.size≤1000000∧gx.size≤1000000) (by have:=tN.out;rw[←h5,←h4];omega);rw[h5,h4];have ti:=hid h5;have th:=hid h4;clear h1 h2 h5 h4;go_wp2_with fail
    have Ha:=hid (HI.out.alloc (.cells #[.string fx,.string gx] 9));have tU:=hid (hC.out.keep Ha.out);have tm:pb<w5.heap.size:=Nat.lt_of_lt_of_le hC.out.box.lt HI.out.size;have hu:Stays (fun q=>q=pb) (w5.alloc (.cells #[.string fx,.string gx] 9)) (.slice (some ⟨w5.heap.size,0,none⟩) 2 2):=fun q hq=>by cases hq;exact⟨fun e=>by have e2:w5.heap.size=pb:=e;omega,(HeapIs.new w5 _ _).lt⟩
    refine (Wj _ tU.out hV.out _ [fx,gx] (Zbl w5 fx gx _ tj.out.1 tj.out.2) hu (by simp)).mono ?_;rintro e7 w7 ⟨rv,rfl,he,Ho,hY⟩;rw[←ti.out,←th.out,ZaL H7.out]at Ho;have H0:pb<w.heap.size:=H.out.box.lt;have Hh:=(H8.out.keep Ha.out).turn hY (by have:=Hf.out;omega);have Hq:=Zi (OwnRow.keep hi.out Ha.out) hY (fun q hq hr=>by have:=(World.ownsRow.lt hi.out q hq).1;omega)
    have tc:=hid ((HG.out.later (Turn.since (S:=fun q=>q=pb) Ha.out) (fun q hq=>.inl hq)).trans hY);obtain⟨na,Hu⟩:∃ na,ZS fx=na:=⟨_,rfl⟩
    obtain⟨nv,Hr⟩:∃ nv,ZS gx=nv:=⟨_,rfl⟩
    obtain⟨nb,nc,rfl,t7,tq,tF,Ht,hy,hJ⟩:=ZcG (show w7.ownsRow _ _ 1 _ 2 [.int .i64 (ZS fx),.int .i64 (ZS gx)] from he);rw[Hu]at hy;rw[Hr]at hJ;have tW:=zH ((ZS (YQ x),ZS (Yv x))=(na,nv)) (by rw[ti.out,th.out,Hu,Hr]);have tT:=hid Ho;have ta:=hid Hh;have te:=hid Hq;have tD:w5.heap.size<(w5.alloc (.cells #[.string fx,.string gx] 9)).heap.size:=(HeapIs.new w5 _ _).lt;have hQ:=hid (show ¬ (Value.slice ia il ic).ownBlock=some pb∧¬ (Value.slice ia il ic).ownBlock=some xb∧¬ (Value.slice ia il ic).ownBlock=some nb from
     ⟨fun e=>by have:=(World.ownsRow.lt hi.out pb e).1;omega,Zk Hq Hh (by decide),fun e=>by have:=(World.ownsRow.lt hi.out nb e).2;have:=HI.out.size;omega⟩)
    have t2:=hid hy;have HQ:=hid hJ;have hE:=hid Ht;have tR:=hid H0;clear he Ho hY Hh Hq Hu Hr hy hJ tF Ht tD tm hu H0 tq;go_wp2_with fail
    refine Z4 11 10 [10] [0,0,0,0,0,0,0,0,0,0,0] [0,0,0,0,0,0,0,0,0,0,0] [0,0,0,0,0,0,0,0,0,0,1] (fun q=>(Value.slice ia il ic).ownBlock=some q) (fun p w8=>p=0→Since w7 w8) rfl (by decide +kernel) (by decide +kernel) (by decide +kernel) (by decide) (by decide +kernel)
     [Is (.pointer (some ⟨xb,1,none⟩)),Is (.slice ia il ic),Is (.slice (some ⟨nb,0,none⟩) 2 nc),Is (.pointer (some ⟨nb,0,none⟩)),Is (.int .i64 na),Is (.slice (some ⟨nb,0,none⟩) 2 nc),Is (.pointer (some ⟨nb,1,none⟩)),Is (.int .i64 nv),Is (.agg #[.int .i64 na,.int .i64 nv]),ZW prcells 71 (fun q=>(Value.slice ia il ic).ownBlock=some q) (na,nv),Yb prcells 2 71 w7 (.slice ia il ic) (ps++[(na,nv)])]
     (by repeat (first | exact trivial | refine⟨fun h=>absurd rfl h,?_⟩ | refine⟨fun _=>Is.stableT _ _,?_⟩ | refine⟨fun _=>Any.stableT _,?_⟩ | refine⟨fun _=>ZW.stableT _ _ _ _,?_⟩)) (by repeat (first | exact trivial | refine⟨Is.stable _,?_⟩ | refine⟨Any.stable,?_⟩ | refine⟨ZW.stable _ _ _ _,?_⟩ | refine⟨Yb.stable _ _ _ _ _ _,?_⟩)) (fun _=>(Since.refl w7).drew) ⟨?_,?_,?_,?_,?_,?_,?_,?_,?_,?_,?_,trivial⟩ ?_
    rotate_right
    ·intro vs w8 ht hd hk;simp only[List.take,List.drop,putAll,Act.put,Zc,Zd,Is,List.setIfInBounds_toArray,List.set_cons_zero,List.set_cons_succ,Nat.reduceAdd]at hk ⊢;try simp only[hk]
     obtain⟨wa,hG,hX,hg,hf⟩:Yb prcells 2 71 w7 (.slice ia il ic) (ps++[(na,nv)]) (vs 10) w8:=by exact hk.2.2.2.2.2.2.2.2.2.2.1
     generalize vs 10=nw at *;have hj:=ta.out.turn ht hQ.out.2.1;have H5:=tT.out.box.turn ht hQ.out.1;have Td:=hj.lt;have Te:=hj.frozen;have k1:w8.cell? ⟨xb,1,none⟩=some (.slice ia il ic):=hj.cell 1;have Hx:∀ q,nw.ownBlock=some q→w.heap.size≤q:=fun q hq=>by
      rcases hg q hq with h1|h1
      ·exact (World.ownsRow.lt hi.out q h1).1
      ·have:=tc.out.size;have:=hG.size;omega
     obtain⟨ja,jc,hI⟩:=Ze hf;rw[List.length_append,HN.out]at hI;subst hI;have hN:=hid (tc.out.later ht (fun q hq=>.inr (World.ownsRow.lt hi.out q hq).1))
     have H9:=hid hj;have t5:=hid H5;have hD:=hid hf;have tz:=hid Hx;clear hk hd ht hG hX hg hj H5 hf Hx;go_wp2
     go_roundw
     case rel =>
      have hx:=H9.out.set 1 (.slice ja (il+1) jc);have Hi:=hN.out.later ((Turn.refl (fun q=>q=xb) w8).setCell (p:=⟨xb,1,none⟩) rfl (.slice ja (il+1) jc)) (fun q hq=>.inr (by subst hq;exact Hf.out))
      have tu:=t5.out.turn ((Turn.refl (fun q=>q=xb) w8).setCell (p:=⟨xb,1,none⟩) rfl (.slice ja (il+1) jc)) (fun e=>by have:=tR.out;have:=Hf.out;omega);have tp:=Zi hD.out ((Turn.refl (fun q=>q=xb) w8).setCell (p:=⟨xb,1,none⟩) rfl (.slice ja (il+1) jc)) (fun q hq hr=>by subst hr;exact Zk hD.out H9.out (by decide) hq)
      refine⟨k+1,.slice ja (il+1) jc,by go_num,by omega,hx,?_,H.out.reBox Hi tu,Hi⟩;have e1:(r.take (k+1)).map Xy=ps++[(na,nv)]:=by
       have:=Qx H7.out;rw[Hc.out,tW.out]at this;exact this
      rw[e1];exact Zea tp tz.out
     case measure=>simp[intOf];omega
    all_goals
     intro p vs w8 tH tI ht hd hk;simp only[List.take,putAll,Act.put,Zh,Zd,Is,List.setIfInBounds_toArray,List.set_cons_zero,List.set_cons_succ,Nat.reduceAdd]at hk ⊢;try simp only[hk]
    ·go_wp2
     exact⟨_,rfl,rfl,Since.refl _,hd⟩
    ·have hj:=ta.out.turn ht hQ.out.2.1;have k1:w8.cell? ⟨xb,1,none⟩=some (.slice ia il ic):=hj.cell 1;have k2:=hj.lt;go_wp2
     exact⟨_,rfl,rfl,Since.refl _,hd⟩
    iterate 2
     ·go_wp2
      exact⟨_,rfl,rfl,Since.refl _,hd⟩
    ·have k1:w8.cell? ⟨nb,0,none⟩=some (.int .i64 na):=(ht.cell hE.out hQ.out.2.2).trans t2.out;have k2:nb<w8.heap.size:=Nat.lt_of_lt_of_le hE.out ht.size;go_wp2
     exact⟨_,rfl,rfl,Since.refl _,hd⟩
    iterate 2
     ·go_wp2
      exact⟨_,rfl,rfl,Since.refl _,hd⟩
    ·have k1:w8.cell? ⟨nb,1,none⟩=some (.int .i64 nv):=(ht.cell hE.out hQ.out.2.2).trans HQ.out;have k2:nb<w8.heap.size:=Nat.lt_of_lt_of_le hE.out ht.size;go_wp2
     exact⟨_,rfl,rfl,Since.refl _,hd⟩
    ·go_wp2
     exact⟨_,rfl,rfl,Since.refl _,hd⟩
    ·have Hs:¬ (Value.slice ia il ic).ownBlock=some w8.heap.size:=fun e=>by have:=(World.ownsRow.lt te.out _ e).2;have:=ht.size;omega
     have hH:=(Since.refl w8).alloc (.cells (prcells (na,nv)).toArray 71);have HP:=hid (fun (e:p=0)=>(hd e).trans hH)
     clear hk hd;go_wp2
     exact⟨_,rfl,⟨_,rfl,HeapIs.new _ _ _,Hs⟩,hH,HP.out⟩
    ·obtain rfl:p=0:=by omega
     have hv:=hd rfl;obtain⟨b1,h8,h7,h6⟩:ZW prcells 71 (fun q=>(Value.slice ia il ic).ownBlock=some q) (na,nv) (vs 9) w8:=hk.2.1
     simp only[h8];have he:=OwnRow.keep te.out hv;have HJ:=hid hv;clear hk hd hv h8;refine Zf prcells 2 YB (by decide) rfl _ _ 58 rfl 71 (.agg #[.int .i64 0,.int .i64 0]) 16 Tryz.underlying58 (by kernel_rfl) rfl (.slice ia il ic) _ (na,nv) b1 1 _ rfl rfl (OwnRow.low he) h7 (by unfold prcells;simp[Value.oneCell']) (by rw[HN.out];unfold maxLen;omega) (by rw[HN.out];omega) (Nat.zero_le _) ?_;intro v' w3 hf hs hg;have HA:=zH (Yb prcells 2 71 w7 (.slice ia il ic) (ps++[(na,nv)]) v' w3) ⟨w8,HJ.out,hs,hg,hf⟩;have HH:=hid hs;clear hf hs hg he h7 h6;go_wp2
     exact⟨_,rfl,HA.out,HH.out,fun e=>absurd e (by decide)⟩
   ·obtain rfl:n=k:=by omega
    have HY:r.take n=r:=by rw[←He.out];exact List.take_of_length_le (Nat.le_refl _)
    have hm:=Hc.out;rw[HY]at hm;have Hc:=hid hm;clear hm;rw[show n=r.length from He.out.symm]at hC;have hh:=hC.out;have hR:=hid (hh.last b HB.out);have Hm:0<bl.length:=by
     rcases Nat.eq_zero_or_pos bl.length with h0|h0
     ·have:=(List.getElem?_eq_some_iff.1 HB.out).1;omega
     ·exact h0
    obtain⟨bb,bc,H4,tL,ts,_,HE,tt,hK⟩:=YT hh.row Hm;obtain⟨mm,Hv⟩:∃ mm,bl.length=mm+1:=⟨bl.length-1,by omega⟩
    rw[Hv]at H4 h8 tL;subst H4;have Hw:bl.length-1=mm:=by omega
    obtain⟨pa,pc,hz⟩:=Ze hR.out.phis;obtain⟨pn,Hn⟩:∃ pn,b.phis.length=pn:=⟨_,rfl⟩
    rw[Hn]at hz h7;have c1:wr.cell? ⟨pb,1,none⟩=some (.slice (some ⟨bb,0,none⟩) (mm+1) bc):=hh.cell 1;have c2:wr.cell? ⟨bb,mm*6,none⟩=some (.slice pa pn pc):=by
     rw[←hz];refine hK (mm*6) b.phv ?_;have h9:=YP fbcells 6 Zs bl mm 0 b (by rw[←Hw];exact HB.out) (by decide);exact h9
    obtain⟨cur,HF⟩:=Xz hh.row (q:=bb) rfl;have t4:=zH (HeapIs wr bb cur 57) HF;have HK:=zH (OwnRow fpcells 2 60 0 wr (.slice pa pn pc) b.phis) (by rw[←hz];exact hR.out.phis);have H1:pb<wr.heap.size:=hh.box.lt;have HQ:=hid c1;have tk:=hid c2;have tf:=hid Hw;have Hb:=hid hz;have HM:=hid Hn;have tX:=hid Hv;have hP:=zH (pb<wr.heap.size∧bb<wr.heap.size) ⟨H1,HE⟩;have hO:=hid (show ¬ (Value.slice pa pn pc).ownBlock=some pb∧¬ (Value.slice pa pn pc).ownBlock=some bb∧¬ (Value.slice pa pn pc).ownBlock=some xb from by
     rw[←hz];exact⟨Zk hR.out.phis hh.box (by decide),fun e=>Z9 hR.out.phis hh.row (by decide) bb e rfl,fun e=>by have:=H.out.lt xb (.inr (.inr ⟨b,HB.out,.inl e⟩));have:=Hf.out;omega⟩)
    clear hh Hm HE tt hK Hw hz Hn Hv ts c2 HY HF;go_wp2_with fail
    clear c1 H1;refine Z4 10 9 [9] [0,0,0,0,0,0,0,0,0,0] [0,0,0,0,0,0,0,0,0,0] [0,0,0,0,0,0,0,0,0,1] (fun q=>(Value.slice pa pn pc).ownBlock=some q) (fun p w8=>p=0→Since wr w8) rfl (by decide +kernel) (by decide +kernel) (by decide +kernel) (by decide) (by decide +kernel)
     [Is (.pointer (some ⟨pb,0,none⟩)),Is (.pointer (some ⟨bb,mm*6,none⟩)),Is (.pointer (some ⟨pb,0,none⟩)),Is (.pointer (some ⟨bb,mm*6,none⟩)),Is (.pointer (some ⟨bb,mm*6,none⟩)),Is (.pointer (some ⟨bb,mm*6,none⟩)),Is (Value.slice pa pn pc),Is (.agg #[.int .i64 dn,.slice ia il ic]),ZW fpcells 60 (fun q=>(Value.slice pa pn pc).ownBlock=some q) (⟨dn,ps,.slice ia il ic⟩:ZC),Yb fpcells 2 60 wr (Value.slice pa pn pc) (b.phis++[(⟨dn,ps,.slice ia il ic⟩:ZC)])]
     (by repeat (first | exact trivial | refine⟨fun h=>absurd rfl h,?_⟩ | refine⟨fun _=>Is.stableT _ _,?_⟩ | refine⟨fun _=>Any.stableT _,?_⟩ | refine⟨fun _=>ZW.stableT _ _ _ _,?_⟩)) (by repeat (first | exact trivial | refine⟨Is.stable _,?_⟩ | refine⟨Any.stable,?_⟩ | refine⟨ZW.stable _ _ _ _,?_⟩ | refine⟨Yb.stable _ _ _ _ _ _,?_⟩)) (fun _=>(Since.refl wr).drew) ⟨?_,?_,?_,?_,?_,?_,?_,?_,?_,?_,trivial⟩ ?_
    rotate_right
    ·intro vs w8 ht hd hk;simp only[List.take,List.drop,putAll,Act.put,Zc,Zd,Is,List.setIfInBounds_toArray,List.set_cons_zero,List.set_cons_succ,Nat.reduceAdd]at hk ⊢;try simp only[hk]
     obtain⟨wa,hG,hX,hg,hf⟩:Yb fpcells 2 60 wr (Value.slice pa pn pc) (b.phis++[(⟨dn,ps,.slice ia il ic⟩:ZC)]) (vs 9) w8:=by exact hk.2.2.2.2.2.2.2.2.2.1
     generalize vs 9=nw at *;obtain⟨ja,jc,hI⟩:=Ze hf;rw[List.length_append,HM.out]at hI;subst hI;have hU:=t4.out.turn ht hO.out.2.1;have Tb:=hU.lt;have Tc:=hU.frozen;have k1:w8.cell? ⟨bb,mm*6,none⟩=some (Value.slice pa pn pc):=(ht.cell hP.out.2 hO.out.2.1).trans tk.out;have hD:=hid hf;have hN:=hid ht;have Tk:=hid hX;have tP:=hid hG;have tx:=hid hg;clear hk hd ht hG hX hg hU hf;go_wp2
     go_end0
     have hB:=hR.out;have tn:Vy (PaS w0 pb (.slice (some ⟨bb,0,none⟩) (mm+1) bc) bl) wr (⟨dn,ps,.slice ia il ic⟩:ZC):=⟨Yf YB hi.out (fun _ _=>trivial),fun q hq=>⟨fun h=>by have:=H.out.ltS q h;have:=(World.ownsRow.lt hi.out q hq).1;omega,(World.ownsRow.lt hi.out q hq).2⟩⟩
     have tr:=Zi hB.ins hN.out (fun q hq hr=>Z9 hB.ins hB.phis (by decide) q hq (by rw[Hb.out];exact hr))
     have tE:ZP wr b.phv (.slice ja (pn+1) jc):=fun q hq=>by
      rcases tx.out q hq with h1|h1
      ·exact .inl (by rw[Hb.out];exact h1)
      ·have:=tP.out.size;exact .inr (by omega)
     have HU:=PaM.upd hC.out (b':={ b with phis:=b.phis++[⟨dn,ps,.slice ia il ic⟩],phv:=.slice ja (pn+1) jc }) HB.out (bb:=bb) (cap:=bc) (by rw[tX.out]) (w1:=w8) (hN.out.mono (fun q _ hq=>.inl (by rw[Hb.out];exact hq))) 0 (by decide) (.slice ja (pn+1) jc) rfl hD.out tr tE (fun q hq=>.inl hq) (fun p hp=>by rcases List.mem_append.1 hp with h1 | h1;exact hB.phi p h1;rw[List.mem_singleton.1 h1];exact tn) hB.inx hB.term
     rw[tf.out]at HU;refine⟨rfl,VI d r r.length,_,HU,?_,?_⟩
     ·refine ((HG.out.mono fun q _ hq=>.inl hq:Turn (PaOwn pb _ bl) w wr).trans (hN.out.mono fun q _ hq=>.inr (.inr ⟨b,HB.out,.inl (by rw[Hb.out];exact hq)⟩))).setCell ?_ _
      exact .inr (.inl rfl)
     ·rw[tZ.out,Zbx]
      cases Tf:(Ya d&&r.all Wa)
      ·exact⟨rfl,by decide⟩
      ·refine⟨rfl,rfl,?_⟩;have:=WP (b':={ b with phis:=b.phis++[⟨dn,ps,.slice ia il ic⟩],phv:=.slice ja (pn+1) jc }) HB.out ⟨params,bl.map FBlk.d,pl⟩ rfl (fun b=>⟨b.phis++[⟨ZS d,r.map Xy⟩],b.ins,b.term⟩) (by rw[t1.out,Hc.out];simp[FBlk.d,ZC.d]);rw[tf.out]at this;exact this
    all_goals
     intro p vs w8 tH tI ht hd hk;simp only[List.take,putAll,Act.put,Zh,Zd,Is,List.setIfInBounds_toArray,List.set_cons_zero,List.set_cons_succ,Nat.reduceAdd]at hk ⊢;try simp only[hk]
    iterate 2
     ·go_wp2
      exact⟨_,rfl,rfl,Since.refl _,hd⟩
     ·have k1:w8.cell? ⟨pb,1,none⟩=some (.slice (some ⟨bb,0,none⟩) (mm+1) bc):=(ht.cell hP.out.1 hO.out.1).trans HQ.out;have k2:pb<w8.heap.size:=Nat.lt_of_lt_of_le hP.out.1 ht.size;clear hk;go_wp2_with fail
      refine (K0 w8 k1 k2 (by omega)).mono ?_;rintro e3 w3 ⟨rfl,Hk⟩;have tS:=hid (fun (e:p=0)=>(hd e).trans Hk)
      have tQ:=hid Hk;clear hd Hk k1;go_wp2
      exact⟨_,rfl,rfl,tQ.out,tS.out⟩
    iterate 2
     ·go_wp2
      exact⟨_,rfl,rfl,Since.refl _,hd⟩
    ·have k1:w8.cell? ⟨bb,mm*6,none⟩=some (Value.slice pa pn pc):=(ht.cell hP.out.2 hO.out.2.1).trans tk.out;have k2:bb<w8.heap.size:=Nat.lt_of_lt_of_le hP.out.2 ht.size;go_wp2
     exact⟨_,rfl,rfl,Since.refl _,hd⟩
    ·have HC:=H8.out.turn ht hO.out.2.2;clear hk;refine wpList_load_row rfl _ _ rfl xb rfl 60 _ (0,0) _ HC Tryz.underlying60 rfl (by kernel_rfl) ?_;go_wp2
     exact⟨_,rfl,rfl,Since.refl _,hd⟩
    ·have Hs:¬ (Value.slice pa pn pc).ownBlock=some w8.heap.size:=fun e=>by have:=(World.ownsRow.lt HK.out _ e).2;have:=ht.size;omega
     have hH:=(Since.refl w8).alloc (.cells (fpcells (⟨dn,ps,.slice ia il ic⟩:ZC)).toArray 60);have HP:=hid (fun (e:p=0)=>(hd e).trans hH)
     clear hk hd;go_wp2
     exact⟨_,rfl,⟨_,rfl,HeapIs.new _ _ _,Hs⟩,hH,HP.out⟩
    ·obtain rfl:p=0:=by omega
     have hv:=hd rfl;obtain⟨b1,h6,H6,tM⟩:ZW fpcells 60 (fun q=>(Value.slice pa pn pc).ownBlock=some q) (⟨dn,ps,.slice ia il ic⟩:ZC) (vs 8) w8:=hk.2.1
     simp only[h6];have he:=OwnRow.keep HK.out hv;have HJ:=hid hv;clear hk hd hv h6;refine Zf fpcells 2 YR (by decide) rfl _ _ 55 rfl 60 (.agg #[.int .i64 0,.slice none 0 0]) 32 Tryz.underlying55 (by kernel_rfl) rfl (Value.slice pa pn pc) _ (⟨dn,ps,.slice ia il ic⟩:ZC) b1 1 _ rfl rfl he H6 (by unfold fpcells;simp[Value.oneCell']) (by rw[HM.out];unfold maxLen;omega) (by rw[HM.out];omega) (Nat.zero_le _) ?_;intro v' w3 hf hs hg;have HA:=zH (Yb fpcells 2 60 wr (Value.slice pa pn pc) (b.phis++[(⟨dn,ps,.slice ia il ic⟩:ZC)]) v' w3) ⟨w8,HJ.out,hs,hg,hf⟩;have HH:=hid hs;clear hf hs hg he H6 tM;go_wp2
     exact⟨_,rfl,HA.out,HH.out,fun e=>absurd e (by decide)⟩
end
end Go.Proofs.YtmhojfpidedjeaaGreatDoor
