/- The program's each: over a text's lines that have words. The program's Parse: the walk. The program's tile: the walk. jacquardlaw25.shown: the document's example. jacquardlaw25.raw: a function under way, as it lies in memory: the block under way (RawX), the function's box (RawG). -/
import Derived.Test.YtmhojfpidedjeaaGreatDoorTb03
import Derived.Test.YtmhojfpidedjeaaGreatDoorTb05
import Derived.Test.YtmhojfpidedjeaaGreatDoorTb08
import Derived.Test.YtmhojfpidedjeaaGreatDoorTb09
import Derived.Test.YtmhojfpidedjeaaGreatDoorTb10
import Derived.Test.YtmhojfpidedjeaaGreatDoorTb11
import Derived.Test.YtmhojfpidedjeaaGreatDoorTb17
import Derived.Test.YtmhojfpidedjeaaGreatDoorTb31
import Derived.Test.YtmhojfpidedjeaaGreatDoorTb32
namespace Go.Proofs.YtmhojfpidedjeaaGreatDoor
open Go.RowKit
set_option linter.unusedVariables false
theorem sep_enters (args:Array Value) (w:World):(callFunc 70 args).run Tryz.prog w=.ok (.enter 70 args) w:=by
 simp[callFunc,Tryz.func70]
 first | rfl | skip
set_option maxHeartbeats 400000 in
set_option maxRecDepth 100000 in
theorem sep_any (x:Nat) (hx:x≤1114111) (w:World):Calls Tryz.prog 70 #[.int .i32 (x:Int)] w fun e w'=>e=.returned (.bool (isSepR x))∧w'=w:=by
 have e:isSepR x=(((x:Int)==32)||((x:Int)==9)):=by
  unfold isSepR
  congr 1
  ·by_cases h:x=32
   ·subst h;rfl
   ·rw[beq_eq_false_iff_ne.2 h,beq_eq_false_iff_ne.2 (by omega)]
  ·by_cases h:x=9
   ·subst h;rfl
   ·rw[beq_eq_false_iff_ne.2 h,beq_eq_false_iff_ne.2 (by omega)]
 rw[e]
 clear e
 obtain⟨a,ha⟩:∃ a,((x:Int)==32)=a:=⟨_,rfl⟩
 obtain⟨b,hb⟩:∃ b,((x:Int)==9)=b:=⟨_,rfl⟩
 rw[ha,hb]
 cases a
 ·go_enter Tryz.func70,Tryz.ntmps70
  go_wp2
  go_ret
  exact⟨rfl,rfl⟩
 ·go_enter Tryz.func70,Tryz.ntmps70
  go_wp2
  go_ret
  exact⟨rfl,rfl⟩
theorem sep_pred (w:World):PredAtRunes Tryz.prog 70 #[] isSepR w:=fun W x hx _=>(sep_any x hx W).mono fun e w' ⟨h1,h2⟩=>⟨h1,0,by rw[h2];rfl⟩
theorem words_go (x:ByteArray):Lib.goFieldsP isSepR ⟨(ahead 35 x.data.toList).toArray⟩=wordsOf x.data.toList:=goFields_fld _
def cutLines (s:ByteArray):List ByteArray:=Lib.splitB ⟨#[10]⟩ 0 (Lib.countB s ⟨#[10]⟩) s
theorem cutLines_data (s:ByteArray):(cutLines s).map (·.data.toList)=spl 10 s.data.toList:=by
 rw[←split_spl]
 unfold cutLines
 rw[Lib.splitB_data]
 rfl
theorem cutLines_len (s:ByteArray):(cutLines s).length=Lib.countB s ⟨#[10]⟩+1:=Lib.splitB_all ⟨#[10]⟩ (by decide) 0 _ s rfl
theorem cutLines_words (s:ByteArray):(cutLines s).map (fun x=>wordsOf x.data.toList)=linesOf s.data.toList:=by
 unfold linesOf
 rw[←cutLines_data,List.map_map]
 rfl
theorem cutLines_small (s:ByteArray):∀ x∈cutLines s,x.size≤s.size:=fun x hx=>by
 have h:=spl_mem_len 10 s.data.toList x.data.toList (by rw[←cutLines_data];exact List.mem_map_of_mem hx)
 rwa [bytes_len,bytes_len]at h
theorem fldGo_small:∀ (l cur:Bs),∀ x∈fldGo cur l,x.length≤l.length+cur.length
 | [],cur,x,hx=>by
  unfold fldGo at hx
  by_cases h:cur=[]
  ·rw[if_pos h]at hx;cases hx
  ·rw[if_neg h]at hx;rw[List.mem_singleton.1 hx];simp
 | c::r,cur,x,hx=>by
  unfold fldGo at hx
  by_cases hs:isSep c=true
  ·rw[if_pos hs]at hx
   by_cases h:cur=[]
   ·rw[if_pos h]at hx
    have:=fldGo_small r [] x hx
    simp only[List.length_cons,List.length_nil]at *;omega
   ·rw[if_neg h]at hx
    rcases List.mem_cons.1 hx with h1|h1
    ·subst h1;simp only[List.length_cons];omega
    ·have:=fldGo_small r [] x h1
     simp only[List.length_cons,List.length_nil]at *;omega
  ·rw[if_neg hs]at hx
   have:=fldGo_small r (cur++[c]) x hx
   simp only[List.length_cons,List.length_append,List.length_nil]at *;omega
theorem words_small (l:Bs):∀ x∈wordsOf l,x.size≤l.length:=fun x hx=>by
 unfold wordsOf at hx
 obtain⟨y,hy,rfl⟩:=List.mem_map.1 hx
 have h:=fldGo_small (ahead 35 l) [] y hy
 have h2:(ahead 35 l).length≤l.length:=by unfold ahead;exact (List.takeWhile_sublist _).length_le
 show y.toArray.size≤_
 simp at h ⊢;omega
def NoText (w:World) (q:Nat):Prop:=∀ cs,¬ HeapIs w q cs 9
structure EachOk (fn:Nat) (pb:Nat) {σ:Type} (step:σ→List ByteArray→Except Int σ) (Inv:Nat→σ→World→Prop) (Bad:Int→World→Prop):Prop where
 e0:∀ i s w,Inv i s w→w.cell? ⟨pb,3,none⟩=some (.int .i64 0)∧pb<w.heap.size
 keep:∀ i s w w',Inv i s w→Since w w'→Inv i s w'
 laid:∀ i s w,Inv i s w→LaidT w
 more:∀ i s w,Inv i s w→Inv (i+1) s w
 enters:∀ (args:Array Value) (w:World),(callFunc fn args).run Tryz.prog w=.ok (.enter fn args) w
 call:∀ (i:Nat) (s:σ) (w:World) (v:Value) (f:ByteArray) (r:List ByteArray),Inv i s w→i≤400000→StrsIn w v (f::r)→(∀ q,v.ownBlock=some q→∃ cs,HeapIs w q cs 9)→r.length≤400000→Calls Tryz.prog fn #[.pointer (some ⟨pb,0,none⟩),v] w fun x w'=>x=.returned (.tuple #[])∧Turn (NoText w) w w'∧(match step s (f::r) with | .error n=>Bad n w' | .ok t=>Inv (i+1) t w')
 bad:∀ n w,Bad n w→w.cell? ⟨pb,3,none⟩=some (.int .i64 n)∧n≠0∧pb<w.heap.size
def EachQ {σ:Type} (step:σ→List ByteArray→Except Int σ) (Inv:Nat→σ→World→Prop) (Bad:Int→World→Prop) (s0:σ) (s:ByteArray) (x:Ending) (w':World):Prop:=
 ∃ wrong:Int,x=.returned (.tuple #[.int .i64 wrong,.int .i64 (linesOf s.data.toList).length])∧(match goSt step 0 s0 (linesOf s.data.toList) with | .error e=>wrong=e.1∧Bad e.2 w' | .ok t=>wrong=0∧∃ i,i≤s.size+1∧Inv i t w')
theorem goSt_next {σ:Type} {step:σ→List ByteArray→Except Int σ} {i : Nat} {s t:σ} {l : List ByteArray} {r : List (List ByteArray)} (hl:l≠[]) (hs:step s l=.ok t):goSt step i s (l::r)=goSt step (i+1) t r:=by
 rw[goSt,if_neg hl,hs]
theorem goSt_bad {σ:Type} {step:σ→List ByteArray→Except Int σ} {i : Nat} {s : σ} {n : Int} {l : List ByteArray} {r : List (List ByteArray)} (hl:l≠[]) (hs:step s l=.error n):goSt step i s (l::r)=.error ((i:Int)+1,n):=by
 rw[goSt,if_neg hl,hs]
theorem goSt_skip {σ:Type} {step:σ→List ByteArray→Except Int σ} {i : Nat} {s : σ} {r : List (List ByteArray)}:goSt step i s ([]::r)=goSt step (i+1) s r:=by
 rw[goSt,if_pos rfl]
section
variable {fn pb:Nat} {σ:Type} {step:σ→List ByteArray→Except Int σ} {Inv:Nat→σ→World→Prop} {Bad:Int→World→Prop}
set_option maxHeartbeats 4000000 in
set_option maxRecDepth 100000 in
theorem each_any (hE:EachOk fn pb step Inv Bad) (s0:σ) (s:ByteArray) (w:World) (h0:Inv 0 s0 w) (hs:s.size≤300000):Calls Tryz.prog 38 #[.pointer (some ⟨pb,0,none⟩),.string s,.func (.func fn) #[.pointer (some ⟨pb,0,none⟩)] #[]] w (fun x w'=>EachQ step Inv Bad s0 s x w'):=by
 obtain⟨N,hN⟩:∃ N,(cutLines s).length=N:=⟨_,rfl⟩
 have hNl:(linesOf s.data.toList).length=N:=by rw[←cutLines_words,List.length_map,hN]
 have hNs:N≤s.size+1:=by rw[←hNl,←bytes_len];exact linesOf_len _
 have HN:=Lib.hid hN
 have HNL:=Lib.hid hNl
 have HE:=Lib.hid hE
 have H0:=Lib.hid h0
 obtain⟨m0,hm0⟩:=(hE.laid 0 s0 w h0).mx
 have hsp:=Tryz.strings_Split s ⟨#[10]⟩ m0 w (by omega) hm0 (by decide)
 rw[←cutLines_len,hN]at hsp
 have HSP:=Lib.hid hsp
 have hent:=hE.enters
 have HENT:=Lib.hid hent
 clear hE h0 hm0 hsp hN hNl
 go_enter Tryz.func38,Tryz.ntmps38
 go_wp2_with fail
 refine HSP.out.mono ?_
 rintro e1 w1 ⟨rfl,hw1⟩
 obtain⟨lb,hlb⟩:∃ q,w.heap.size=q:=⟨_,rfl⟩
 rw[hlb]
 have hlines:HeapIs w1 lb ((cutLines s).map Value.string).toArray 9:=by rw[hw1,←hlb];exact HeapIs.new _ _ _
 have hs1:Since w w1:=by rw[hw1];exact (Since.refl _).alloc _
 have HL1:=Lib.hid hlines
 have HS1:=Lib.hid hs1
 clear hw1 hlines hs1 hlb
 go_wp2_with fail
 go_loopw [16] (fun io wr=>∃ (k:Nat) (t:σ),io=.int .i64 k∧k≤N∧Inv k t wr∧HeapIs wr lb ((cutLines s).map Value.string).toArray 9∧goSt step 0 s0 (linesOf s.data.toList)=goSt step k t ((linesOf s.data.toList).drop k)) (fun io _=>N-(intOf io).toNat)
 case atStart=>exact⟨0,s0,rfl,Nat.zero_le _,HE.out.keep _ _ _ _ H0.out HS1.out,HL1.out,rfl⟩
 case round =>
  obtain⟨k,t,rfl,hk,hinv,hlr,hgo⟩:=hrel
  have HINV:=Lib.hid hinv
  have HLR:=Lib.hid hlr
  have HGO:=Lib.hid hgo
  clear hinv hgo
  by_cases hlt:k<N
  ·obtain⟨x,hx⟩:∃ x,(cutLines s)[k]? = some x:=⟨_,List.getElem?_eq_getElem (by rw[HN.out];exact hlt)⟩
   have hcell:wr.cell? ⟨lb,k,none⟩=some (.string x):=by rw[hlr.cell,List.getElem?_toArray,List.getElem?_map,hx];rfl
   have hll:=hlr.lt
   have hxs:=cutLines_small s x (List.mem_of_getElem? hx)
   have hdrop:(linesOf s.data.toList).drop k=wordsOf x.data.toList::(linesOf s.data.toList).drop (k+1):=by
    have h9:(linesOf s.data.toList)[k]? = some (wordsOf x.data.toList):=by rw[←cutLines_words,List.getElem?_map,hx];rfl
    rw[List.drop_eq_getElem_cons (List.getElem?_eq_some_iff.1 h9).1,(List.getElem?_eq_some_iff.1 h9).2]
   have HDROP:=Lib.hid hdrop
   have HXS:=Lib.hid hxs
   obtain⟨m1,hm1⟩:=(HE.out.laid _ _ _ HINV.out).mx
   have hcut:=Tryz.strings_Cut x ⟨#[35]⟩ m1 wr (by omega) hm1
   have HCUT:=Lib.hid hcut
   obtain⟨y,hy⟩:∃ y:ByteArray,⟨(ahead 35 x.data.toList).toArray⟩=y:=⟨_,rfl⟩
   have HY:=Lib.hid hy
   have HYS:=Lib.hid (show y.size≤300000 from by
    have h2:(ahead 35 x.data.toList).length≤x.data.toList.length:=by unfold ahead;exact (List.takeWhile_sublist _).length_le
    rw[bytes_len]at h2
    rw[←hy];show (ahead 35 x.data.toList).toArray.size≤_;simp;omega)
   clear hlr hx hdrop hm1 hcut hy
   go_wp2_with fail
   refine HCUT.out.mono ?_
   rintro e2 w2 ⟨rfl,kk,hw2⟩
   rw[show (⟨(Lib.cut x.data.toList (⟨#[35]⟩:ByteArray).data.toList).1.toArray⟩:ByteArray)=y from by rw[←HY.out];exact congrArg (fun l:Bs=>(⟨l.toArray⟩:ByteArray)) (cut_ahead 35 x.data.toList).1]
   have hs2:Since wr w2:=by rw[hw2];exact drew_since wr kk
   have HS2:=Lib.hid hs2
   have HFF:=Lib.hid (Tryz.strings_FieldsFunc_runes 70 #[] sep_enters isSepR y w2 (by have:=HYS.out;omega) (sep_pred w2))
   clear hw2 hs2 hcell hll
   go_wp2_with fail
   refine HFF.out.mono ?_
   rintro e3 w3 ⟨wb,rfl,hwb,how,hs3⟩
   have hs3:Since w2 w3:=hs3
   rw[←HY.out,words_go x]at how ⊢
   obtain⟨wl,hwl⟩:∃ l,wordsOf x.data.toList=l:=⟨_,rfl⟩
   rw[hwl]at how ⊢
   obtain⟨wn,hwn⟩:∃ n,wl.length=n:=⟨_,rfl⟩
   rw[hwn]at how ⊢
   have HWL:=Lib.hid hwl
   have HWN:=Lib.hid hwn
   have HOW:=Lib.hid how
   have HS3:=Lib.hid (HS2.out.trans hs3)
   have HINV3:=Lib.hid (HE.out.keep _ _ _ _ HINV.out HS3.out)
   have HLR3:=Lib.hid (HLR.out.keep HS3.out)
   have hwnb:wn≤300000:=by
    have h9:=wordsOf_len x.data.toList
    rw[hwl,hwn,bytes_len]at h9;omega
   clear hwl hwn how hs3 hwb
   by_cases h0:wn=0
   ·subst h0
    have HNX:=Lib.hid (show goSt step 0 s0 (linesOf s.data.toList)=goSt step (k+1) t ((linesOf s.data.toList).drop (k+1)) from by
     rw[HGO.out,HDROP.out,HWL.out,List.length_eq_zero_iff.1 HWN.out,goSt_skip])
    go_wp2
    go_roundw
    case rel=>exact⟨k+1,t,by go_num,by omega,HE.out.more _ _ _ HINV3.out,HLR3.out,HNX.out⟩
    case measure=>simp[intOf];omega
   ·have hq0:((wn:Int)==0)=false:=by rw[beq_eq_false_iff_ne];omega
    obtain⟨f,r,hfr⟩:∃ f r,wl=f::r:=by
     match wl,HWN.out with
     | f::r,_=>exact⟨f,r,rfl⟩
     | [],h=>exact absurd h.symm h0
    subst hfr
    have hrow:StrsIn w3 (.slice (some ⟨wb,0,none⟩) wn wn) (f::r):=by
     have h9:OwnRow stc 1 9 w2.heap.size w3 (.slice (some ⟨wb,0,none⟩) wn wn) (f::r):=by
      unfold OwnRow
      rw[HWN.out]
      have e9:(f::r).flatMap stc=(f::r).map Value.string:=by
       have:∀ l:List ByteArray,l.flatMap stc=l.map Value.string:=fun l=>by induction l with | nil=>rfl | cons a l ih=>rw[List.flatMap_cons,ih];rfl
       exact this _
      rw[e9];exact HOW.out
     exact row_of_own stc_len h9 fun z hz=>by
      have:=words_small x.data.toList z (by rw[HWL.out];exact hz)
      rw[bytes_len]at this
      have:=HXS.out;omega
    have hown:∀ q,(Value.slice (some ⟨wb,0,none⟩) wn wn).ownBlock=some q→∃ cs,HeapIs w3 q cs 9:=fun q hq=>own_heap HOW.out hq
    have HCALL:=Lib.hid (HE.out.call k t w3 _ f r HINV3.out (by omega) hrow hown (by have:=HWN.out;rw[List.length_cons]at this;omega))
    have hent:=HENT.out
    clear h0 hrow hown
    go_wp2_with fail
    refine HCALL.out.mono ?_
    rintro e4 w4 ⟨rfl,ht4,hans⟩
    have hlr4:=HLR3.out.turn ht4 (fun h=>h _ HLR3.out)
    have HLR4:=Lib.hid hlr4
    clear hent
    cases hst:step t (f::r) with
    | error n =>
     rw[hst]at hans
     obtain⟨c3,hn0,hpl⟩:=HE.out.bad _ _ hans
     have hnq:(n==0)=false:=by rw[beq_eq_false_iff_ne];exact hn0
     have HRES:=Lib.hid (show goSt step 0 s0 (linesOf s.data.toList)=.error ((k:Int)+1,n) from by
      rw[HGO.out,HDROP.out,HWL.out,goSt_bad (by simp) hst])
     have HB:=Lib.hid hans
     clear hst hans ht4 hlr4
     go_wp2
     go_ret2
     refine⟨(k:Int)+1,by rw[HNL.out];rfl,?_⟩
     rw[HRES.out]
     exact⟨rfl,HB.out⟩
    | ok u =>
     rw[hst]at hans
     obtain⟨c3,hpl⟩:=HE.out.e0 _ _ _ hans
     have HNX:=Lib.hid (show goSt step 0 s0 (linesOf s.data.toList)=goSt step (k+1) u ((linesOf s.data.toList).drop (k+1)) from by
      rw[HGO.out,HDROP.out,HWL.out,goSt_next (by simp) hst])
     have HI:=Lib.hid hans
     clear hst hans ht4 hlr4
     go_wp2
     go_roundw
     case rel=>exact⟨k+1,u,by go_num,by omega,HI.out,HLR4.out,HNX.out⟩
     case measure=>simp[intOf];omega
  ·obtain rfl:N=k:=by omega
   have HNX:=Lib.hid (show goSt step 0 s0 (linesOf s.data.toList)=.ok t from by
    rw[HGO.out,List.drop_eq_nil_of_le (by rw[HNL.out];exact Nat.le_refl _)];rfl)
   go_wp2
   go_ret2
   refine⟨0,by rw[HNL.out];rfl,?_⟩
   rw[HNX.out]
   exact⟨rfl,N,hNs,HINV.out⟩
end
theorem PaM.noText {T : TypeId} {w0 w:World} {pb:Nat} {tl:List Value} {params pl e:Int} {bv:Value} {bl:List FBlk} (h:PaM T w0 pb tl params pl e bv bl w) (hT:T≠9) {q : Nat} (hq:PaOwn pb bv bl q):NoText w q:=fun cs hb=>by
 rcases hq with rfl|hq|⟨b,hbl,hq|hq⟩
 ·exact heap_ne h.box hb hT rfl
 ·exact own_not h.row hb (by decide) hq
 ·exact own_not (h.last b hbl).phis hb (by decide) hq
 ·exact own_not (h.last b hbl).ins hb (by decide) hq
def PInv (w0:World) (pb:Nat) (i:Nat) (t:PSt) (w:World):Prop:=∃ bv bl,TPa w0 pb (.slice none 0 0) t.params t.pl 0 bv bl w∧t.blocks=bl.map FBlk.d∧FewSt i t
def PBad (w0:World) (pb:Nat) (n:Int) (w:World):Prop:=∃ params pl bv bl,TPa w0 pb (.slice none 0 0) params pl n bv bl w∧n≠0
theorem line_enters (args:Array Value) (w:World):(callFunc 39 args).run Tryz.prog w=.ok (.enter 39 args) w:=by
 simp[callFunc,Tryz.func39]
 first | rfl | skip
theorem parse_ok (w0:World) (pb:Nat) (hL:LaidT w0):EachOk 39 pb stepSt (PInv w0 pb) (PBad w0 pb) where
 e0:=fun i t w ⟨bv,bl,h,_,_⟩=>⟨h.cell 3,h.box.lt⟩
 keep:=fun i t w w' ⟨bv,bl,h,h1,h2⟩ s=>⟨bv,bl,h.keep s,h1,h2⟩
 laid:=fun i t w ⟨bv,bl,h,_,_⟩=>hL.keep h.old
 more:=fun i t w ⟨bv,bl,h,h1,h2⟩=>⟨bv,bl,h,h1,h2.more⟩
 enters:=line_enters
 bad:=fun n w ⟨params,pl,bv,bl,h,hn⟩=>⟨h.cell 3,hn,h.box.lt⟩
 call:=fun i t w v f r ⟨bv,bl,h,hb,hf⟩ hi hv hq hn=>by
  obtain⟨params,blocks,pl⟩:=t
  simp only at hb h
  subst hb
  have hst:Stays (PaOwn pb bv bl) w v:=fun q hqq=>by
   obtain⟨cs,hcs⟩:=hq q hqq
   exact⟨fun hp=>h.noText (by decide) hp cs hcs,hcs.lt⟩
  refine (pline_any w h hL ⟨hf.pl.1,hf.pl.2.1,fun h2 e=>hf.pl.2.2 h2 (by rw[e];rfl)⟩ v f r hv hst hn (by have:=hf.bl;simp only[List.length_map]at this;omega) (fun b hb=>by
   have:=hf.each b.d (List.mem_map_of_mem (List.mem_of_getElem? hb))
   have e1:b.d.phis.length=b.phis.length:=by simp[FBlk.d]
   have e2:b.d.ins.length=b.ins.length:=by simp[FBlk.d]
   omega)).mono ?_
  rintro x w' ⟨rfl,params',pl',e',bv',bl',hp,ht,hans⟩
  refine⟨rfl,ht.mono fun q _ hpq=>h.noText (by decide) hpq,?_⟩
  cases hs:stepSt ⟨params,bl.map FBlk.d,pl⟩ (f::r) with
  | error n =>
   rw[hs]at hans
   obtain⟨h1,h2⟩:=hans
   subst h1
   exact⟨params',pl',bv',bl',hp,h2⟩
  | ok u =>
   rw[hs]at hans
   obtain⟨h1,h2⟩:=hans
   subst h1 h2
   exact⟨bv',bl',hp,rfl,hf.step hs⟩
def ParseQ (s:ByteArray) (w:World) (e:Ending) (w':World):Prop:=∃ f line er,e=.returned (.tuple #[fv f,.int .i64 line,.int .i64 er])∧FnIn w' f∧(⟨f.d,line,er⟩:PRes)=parseS s.data.toList∧Since w w'
structure FunPh (rb:Nat) (w6:World) (cs:Array Value) (w8:World):Prop where
 t:Turn (fun q=>q=rb) w6 w8
 b:HeapIs w8 rb cs 24
set_option maxHeartbeats 8000000 in
set_option maxRecDepth 100000 in
theorem parse_any (s:ByteArray) (w:World) (hs:s.size≤300000) (hL:LaidT w):Calls Tryz.prog 18 #[.string s] w (ParseQ s w):=by
 have hs1:Since w (w.alloc (.cells #[.int .i64 0,.slice none 0 0] 24)):=(Since.refl w).alloc _
 have HL1:=Lib.hid (hL.keep hs1)
 have HS1:=Lib.hid hs1
 have HB1:=Lib.hid (HeapIs.new w #[.int .i64 0,.slice none 0 0] 24)
 clear hs1 hL
 go_enter Tryz.func18,Tryz.ntmps18
 go_wp2_with fail
 obtain⟨rb,hrb⟩:∃ q,w.heap.size=q:=⟨_,rfl⟩
 rw[hrb]at HB1
 obtain⟨w1,hw1⟩:∃ w1,w.alloc (.cells #[.int .i64 0,.slice none 0 0] 24)=w1:=⟨_,rfl⟩
 rw[hw1]at HL1 HS1 HB1
 obtain⟨pb,hpb⟩:∃ q,w1.heap.size=q:=⟨_,rfl⟩
 have hp0:=PaM.start w1 93 [.slice none 0 0] (by decide)
 rw[hpb]at hp0
 have HP0:=Lib.hid hp0
 have HRB:=Lib.hid hrb
 have hpe:w.heap.size+1=pb:=by rw[←hpb,←hw1];simp
 rw[hrb]at hpe
 rw[hw1]
 try rw[hrb]
 try rw[hpe]
 clear hp0 hw1 hrb hpb
 clear hpe
 refine (each_any (parse_ok w1 pb HL1.out) ⟨0,[],0⟩ s _ ⟨_,[],HP0.out,rfl,FewSt.start⟩ hs).mono ?_
 rintro e2 w2 ⟨wrong,rfl,hans⟩
 obtain⟨N,hN⟩:∃ N,(linesOf s.data.toList).length=N:=⟨_,rfl⟩
 rw[hN]
 have HN:=Lib.hid hN
 have HPS:=Lib.hid (show parseS s.data.toList=match goSt stepSt 0 ⟨0,[],0⟩ (linesOf s.data.toList) with
  | .error x=>⟨⟨0,[]⟩,x.1,x.2⟩
  | .ok t=>if t.pl=1∧t.blocks≠[] then ⟨⟨t.params,t.blocks⟩,0,0⟩ else ⟨⟨0,[]⟩,((linesOf s.data.toList).length:Int),70⟩ from rfl)
 clear hN
 cases hg:goSt stepSt 0 ⟨0,[],0⟩ (linesOf s.data.toList) with
 | error x =>
  rw[hg]at hans
  obtain⟨ln,E⟩:=x
  obtain⟨h1,params,pl,bv,bl,hp,hn0⟩:=hans
  simp only at h1 hp hn0
  subst h1
  have HRS:=Lib.hid (show (⟨(⟨0,[],.slice none 0 0⟩:FnV).d,wrong,E⟩:PRes)=parseS s.data.toList from by rw[HPS.out,hg];rfl)
  have hE:(E==0)=false:=by rw[beq_eq_false_iff_ne];exact hn0
  have c3:w2.cell? ⟨pb,3,none⟩=some (.int .i64 E):=hp.cell 3
  have hpl:=hp.box.lt
  have HB2:=Lib.hid (HB1.out.keep hp.old)
  have HS2:=Lib.hid (HS1.out.trans hp.old)
  have hpr:pb≠rb:=heap_ne hp.box HB2.out (by decide)
  clear hg hp hn0
  go_wp2_with fail
  refine wp_region_phases [6] [0,0,0,0,0,0,0,1,1] [0,1,1,1,1,1,0,1,1] [0,0,0,0,0,0,1,0,0] (fun p w8=>FunPh rb w2 #[.int .i64 0,.slice none 0 0] w8) rfl (by decide +kernel) (by decide +kernel) (by decide +kernel)
   [Is (.agg #[.int .i64 0,.slice none 0 0]),Is (.int .i64 wrong),Is (.pointer (some ⟨pb,0,none⟩)),Is (.pointer (some ⟨pb,0,none⟩)),Is (.pointer (some ⟨pb,3,none⟩)),Is (.int .i64 E),Any,Is (.int .i64 wrong),Is (.int .i64 E)]
   (by repeat (first | exact trivial | refine⟨Is.fixed _,?_⟩ | refine⟨Any.fixed,?_⟩)) ⟨Turn.since ((Since.refl w2).drew),HB2.out.keep ((Since.refl w2).drew)⟩ ⟨?_,?_,?_,?_,?_,?_,?_,?_,?_,trivial⟩ ?_
  rotate_right
  ·intro vs w8 _ hph hk
   simp only[putAll,Act.put,KnowsAll,nthF,Is,Any,List.setIfInBounds_toArray,List.set_cons_zero,List.set_cons_succ,Nat.reduceAdd,List.length_cons,List.length_nil]at hk ⊢
   try simp only[hk]
   have HB8:=Lib.hid (show HeapIs w8 rb #[.int .i64 0,.slice none 0 0] 24 from hph.b)
   have d0:=HB8.out.cell 0
   have d1:=HB8.out.cell 1
   have dl:=HB8.out.lt
   have HS8:=Lib.hid (hph.t.toSince HS2.out fun q hq e=>by have:=HRB.out;omega)
   clear hph hk
   go_wp2
   exact bodyPost_ret (v:=.tuple #[.agg #[.int .i64 0,.slice none 0 0],.int .i64 wrong,.int .i64 E]) (by simp[results,Tryz.results18,go_sem,d0,d1]) rfl ⟨⟨0,[],.slice none 0 0⟩,wrong,E,rfl,fn_nil _,HRS.out,HS8.out⟩
  all_goals
   intro p vs w8 hlo hhi _ hph hk
   simp only[putAll,Act.put,Knows,nthF,Is,Any,List.setIfInBounds_toArray,List.set_cons_zero,List.set_cons_succ,Nat.reduceAdd]at hk ⊢
   try simp only[hk]
  ·go_wp2
   exact⟨_,rfl,rfl,trivial,hph⟩
  ·go_wp2
   exact⟨_,rfl,rfl,trivial,hph⟩
  ·go_wp2
   exact⟨_,rfl,rfl,trivial,hph⟩
  ·go_wp2
   exact⟨_,rfl,rfl,trivial,hph⟩
  ·go_wp2
   exact⟨_,rfl,rfl,trivial,hph⟩
  ·have z1:w8.cell? ⟨pb,3,none⟩=some (.int .i64 E):=(hph.t.cell (p:=⟨pb,3,none⟩) hpl hpr).trans c3
   have z2:pb<w8.heap.size:=Nat.lt_of_lt_of_le hpl hph.t.size
   go_wp2
   exact⟨_,rfl,rfl,trivial,hph⟩
  ·have HB8:=Lib.hid (show HeapIs w8 rb #[.int .i64 0,.slice none 0 0] 24 from hph.b)
   have HT8:=Lib.hid hph.t
   clear hph
   refine wpList_store_row rfl 24 _ _ rfl rb #[.int .i64 0,.slice none 0 0] rfl rfl 24 _ HB8.out (by kernel_rfl) rfl (by rw[←Array.all_toList];rfl) ?_
   go_wp2
   exact⟨undef,rfl,trivial,trivial,⟨HT8.out.trans (put_turn (S:=fun q=>q=rb) rfl _),put_block HB8.out _⟩⟩
  ·go_wp2
   exact⟨_,rfl,rfl,trivial,hph⟩
  ·go_wp2
   exact⟨_,rfl,rfl,trivial,hph⟩
 | ok t =>
  rw[hg]at hans
  obtain⟨h1,i,hi,bv,bl,hp,hbl,hfew⟩:=hans
  obtain⟨params,blocks,pl⟩:=t
  simp only at hp hbl
  subst h1 hbl
  have c0:w2.cell? ⟨pb,0,none⟩=some (.int .i64 params):=hp.cell 0
  have c1:w2.cell? ⟨pb,1,none⟩=some bv:=hp.cell 1
  have c2:w2.cell? ⟨pb,2,none⟩=some (.int .i64 pl):=hp.cell 2
  have c3:w2.cell? ⟨pb,3,none⟩=some (.int .i64 0):=hp.cell 3
  have hpl:=hp.box.lt
  obtain⟨va,vc,hv⟩:=own_shape hp.row
  obtain⟨bn,hbn⟩:∃ n,bl.length=n:=⟨_,rfl⟩
  rw[hbn]at hv
  subst hv
  have HBN:=Lib.hid hbn
  have hbb:bn≤300001:=by have:=hfew.bl;simp only[List.length_map]at this;omega
  have HP:=Lib.hid hp
  have HB2:=Lib.hid (HB1.out.keep hp.old)
  have HS2:=Lib.hid (HS1.out.trans hp.old)
  have HGO:=Lib.hid hg
  clear hbn hp hfew hg
  by_cases hp1:pl=1
  ·subst hp1
   by_cases hb0:bn=0
   ·subst hb0
    have HBL:=Lib.hid (List.length_eq_zero_iff.1 HBN.out)
    have HRS:=Lib.hid (show (⟨(⟨0,[],.slice none 0 0⟩:FnV).d,N,70⟩:PRes)=parseS s.data.toList from by rw[HPS.out,HGO.out,HBL.out];simp[FnV.d,HN.out])
    go_wp2_with (refine wpList_store_row rfl 24 _ _ rfl rb #[.int .i64 0,.slice none 0 0] rfl rfl 24 _ HB2.out (by kernel_rfl) rfl (by rw[←Array.all_toList];rfl) ?_)
    have hb5:HeapIs (w2.setRow rb #[.int .i64 0,.slice none 0 0]) rb #[.int .i64 0,.slice none 0 0] 24:=put_block HB2.out _
    have hs5:Since w (w2.setRow rb #[.int .i64 0,.slice none 0 0]):=since_setRow HS2.out (Nat.le_of_eq HRB.out) _
    have hfn:FnIn (w2.setRow rb #[.int .i64 0,.slice none 0 0]) ⟨0,[],.slice none 0 0⟩:=fn_nil _
    generalize w2.setRow rb #[.int .i64 0,.slice none 0 0]=w5 at *
    have d0:=hb5.cell 0
    have d1:=hb5.cell 1
    have hl5:=hb5.lt
    have HS5:=Lib.hid hs5
    have HFN:=Lib.hid hfn
    clear hb5 hs5 hfn
    go_wp2
    exact bodyPost_ret (v:=.tuple #[.agg #[.int .i64 0,.slice none 0 0],.int .i64 N,.int .i64 70]) (by simp[results,Tryz.results18,go_sem,d0,d1]) rfl ⟨⟨0,[],.slice none 0 0⟩,N,70,rfl,HFN.out,HRS.out,HS5.out⟩
   ·have hq0:((bn:Int)==0)=false:=by rw[beq_eq_false_iff_ne];omega
    have HRS:=Lib.hid (show (⟨(⟨params,bl,.slice va bn vc⟩:FnV).d,0,0⟩:PRes)=parseS s.data.toList from by
     have hne:bl.map FBlk.d≠[]:=fun e=>by rw[List.map_eq_nil_iff]at e;rw[e]at HBN;exact hb0 HBN.out.symm
     rw[HPS.out,HGO.out];show _=(if (1:Int)=1∧bl.map FBlk.d≠[] then _ else _);rw[if_pos ⟨rfl,hne⟩];rfl)
    clear hb0
    go_wp2_with (refine wpList_store_row rfl 24 _ _ rfl rb #[.int .i64 params,.slice va bn vc] rfl rfl 24 _ HB2.out (by kernel_rfl) rfl (by rw[←Array.all_toList];rfl) ?_)
    have hb5:HeapIs (w2.setRow rb #[.int .i64 params,.slice va bn vc]) rb #[.int .i64 params,.slice va bn vc] 24:=put_block HB2.out _
    have hs5:Since w (w2.setRow rb #[.int .i64 params,.slice va bn vc]):=since_setRow HS2.out (Nat.le_of_eq HRB.out) _
    have hfn:FnIn (w2.setRow rb #[.int .i64 params,.slice va bn vc]) ⟨params,bl,.slice va bn vc⟩:=HP.out.fnTurn (R:=fun q=>q=rb) (put_turn (S:=fun q=>q=rb) rfl _) (fun q hq=>by rw[hq];exact HB1.out.lt)
    generalize w2.setRow rb #[.int .i64 params,.slice va bn vc]=w5 at *
    have d0:=hb5.cell 0
    have d1:=hb5.cell 1
    have hl5:=hb5.lt
    have HS5:=Lib.hid hs5
    have HFN:=Lib.hid hfn
    clear hb5 hs5 hfn
    go_wp2
    exact bodyPost_ret (v:=.tuple #[.agg #[.int .i64 params,.slice va bn vc],.int .i64 0,.int .i64 0]) (by simp[results,Tryz.results18,go_sem,d0,d1]) rfl ⟨⟨params,bl,.slice va bn vc⟩,0,0,rfl,HFN.out,HRS.out,HS5.out⟩
  ·have hq1:(pl==1)=false:=by rw[beq_eq_false_iff_ne];exact hp1
   have HRS:=Lib.hid (show (⟨(⟨0,[],.slice none 0 0⟩:FnV).d,N,70⟩:PRes)=parseS s.data.toList from by rw[HPS.out,HGO.out];simp only[];rw[if_neg (fun h=>hp1 h.1)];simp[FnV.d,HN.out])
   clear hp1
   go_wp2_with (refine wpList_store_row rfl 24 _ _ rfl rb #[.int .i64 0,.slice none 0 0] rfl rfl 24 _ HB2.out (by kernel_rfl) rfl (by rw[←Array.all_toList];rfl) ?_)
   have hb5:HeapIs (w2.setRow rb #[.int .i64 0,.slice none 0 0]) rb #[.int .i64 0,.slice none 0 0] 24:=put_block HB2.out _
   have hs5:Since w (w2.setRow rb #[.int .i64 0,.slice none 0 0]):=since_setRow HS2.out (Nat.le_of_eq HRB.out) _
   have hfn:FnIn (w2.setRow rb #[.int .i64 0,.slice none 0 0]) ⟨0,[],.slice none 0 0⟩:=fn_nil _
   generalize w2.setRow rb #[.int .i64 0,.slice none 0 0]=w5 at *
   have d0:=hb5.cell 0
   have d1:=hb5.cell 1
   have hl5:=hb5.lt
   have HS5:=Lib.hid hs5
   have HFN:=Lib.hid hfn
   clear hb5 hs5 hfn
   go_wp2
   exact bodyPost_ret (v:=.tuple #[.agg #[.int .i64 0,.slice none 0 0],.int .i64 N,.int .i64 70]) (by simp[results,Tryz.results18,go_sem,d0,d1]) rfl ⟨⟨0,[],.slice none 0 0⟩,N,70,rfl,HFN.out,HRS.out,HS5.out⟩
theorem NumRow.stableT {S : Nat→Prop} {base:Nat} (x:Int) (hS:∀ q,S q→q<base):StableT S (NumRow base x):=fun v w w' ⟨g,cap,h1,h2,h3,h4⟩ t=>⟨g,cap,h1,h2,Nat.lt_of_lt_of_le h3 t.size,(t.cell (p:=⟨g,0,none⟩) h3 (fun hs=>by have:=hS g hs;omega)).trans h4⟩
section
variable {w0:World} {pb:Nat}
end
def shownD:DFn:=⟨2,[⟨[],[⟨2,2,0,[0,1],0⟩],⟨4,[2],[],0⟩⟩]⟩
def shownL:Bs:=[102,117,110,99,32,50,10,98,108,111,99,107,32,48,10,97,100,100,32,50,32,48,32,49,10,114,101,116,32,50,10]
def shownB:ByteArray:=⟨#[102,117,110,99,32,50,10,98,108,111,99,107,32,48,10,97,100,100,32,50,32,48,32,49,10,114,101,116,32,50,10]⟩
theorem shown_text:funcS shownD=shownL:=by decide +kernel
theorem shown_parse:parseS shownL=⟨shownD,0,0⟩:=by kernel_rfl
theorem shown_dfn:DFn3 shownD:=by
 have h:=parsed3 shownL (by decide)
 rw[shown_parse]at h
 exact h
theorem ints_heap {w : World} {b n:Nat} {cs:Array Value} {t : TypeId} (l:List Int) (h:HeapIs w b cs t) (hn:l.length=n) (hm:n≤maxLen) (hc:∀ (j:Nat) (x:Int),l[j]? = some x→cs[j]? = some (.int .i64 x)):Ints w (.slice (some ⟨b,0,none⟩) n n) l:=by
 subst hn
 exact .inr ⟨b,0,l.length,rfl,Nat.le_refl _,hm,h.lt,fun j x hj=>by rw[Nat.zero_add,h.cell];exact hc j x hj⟩
theorem row_heap {α:Type} (f:α→List Value) (sz:Nat) (p:World→α→Prop) {w : World} {b : Nat} {cs:Array Value} {t : TypeId} (x:α) (h:HeapIs w b cs t) (hc:∀ k,k<sz→cs[k]? = (f x)[k]?) (hp:p w x):RowIn f sz p w (.slice (some ⟨b,0,none⟩) 1 1) [x]:=
 .inr ⟨b,0,1,rfl,Nat.le_refl _,by decide,h.lt,fun j y hj=>by
  rcases j with _|j
  ·obtain rfl:x=y:=Option.some.inj hj
   refine⟨fun t ht=>?_,hp⟩
   rw[Nat.zero_mul,Nat.zero_add]
   try rw[Nat.zero_add]
   rw[h.cell]
   exact hc t ht
  ·cases hj⟩
def shownF (q:Nat):FnV:=⟨2,[⟨[],.slice none 0 0,[⟨2,2,0,[0,1],.slice (some ⟨q,0,none⟩) 2 2,0⟩],.slice (some ⟨q+1,0,none⟩) 1 1,⟨4,[2],.slice (some ⟨q+1+1,0,none⟩) 1 1,[],.slice none 0 0,0⟩⟩],.slice (some ⟨q+1+1+1,0,none⟩) 1 1⟩
theorem shownF_d (q:Nat):(shownF q).d=shownD:=rfl
theorem fnR_of (f:FnV) (h:DFn3 f.d):FnR f:=by
 have k:∀ {x : Int},In32W x→In64 x:=fun {x} h=>⟨by have:=h.1;omega,by have:=h.2;omega⟩
 refine⟨k h.params,fun b hb=>?_⟩
 have hb3:=h.blocks b.d (List.mem_map_of_mem hb)
 refine⟨fun p hp=>?_,fun i hi=>?_,?_⟩
 ·obtain⟨h1,h2,_⟩:=hb3.phis p.d (List.mem_map_of_mem hp)
  exact⟨k h1,fun x hx=>⟨k (h2 x hx).1,k (h2 x hx).2⟩⟩
 ·have h1:=hb3.ins i.d (List.mem_map_of_mem hi)
  exact⟨k h1.op,k h1.dst,k h1.two,fun y hy=>k (h1.args.1 y hy),h1.imm⟩
 ·have h1:=hb3.term
  exact⟨k h1.kd,fun y hy=>k (h1.ar.1 y hy),fun y hy=>k (h1.tg.1 y hy),h1.imm⟩
theorem shownF_r (q:Nat):FnR (shownF q):=fnR_of _ shown_dfn
theorem shownF_in {w : World} {q : Nat} {T1 T2 T3 T4:TypeId} (h1:HeapIs w q #[.int .i64 0,.int .i64 1] T1) (h2:HeapIs w (q+1) #[.int .i64 2,.int .i64 2,.int .i64 0,.slice (some ⟨q,0,none⟩) 2 2,.int .i32 0] T2)
  (h3:HeapIs w (q+1+1) #[.int .i64 2] T3) (h4:HeapIs w (q+1+1+1) #[.slice none 0 0,.slice (some ⟨q+1,0,none⟩) 1 1,.int .i64 4,.slice (some ⟨q+1+1,0,none⟩) 1 1,.slice none 0 0,.int .i32 0] T4):FnIn w (shownF q):=by
 refine row_heap fbcells 6 FBlkIn _ h4 (fun k hk=>by rw[←Array.getElem?_toList];rfl) ⟨.inl ⟨none,rfl,rfl⟩,row_heap ficells 5 FInsIn _ h2 (fun k hk=>by rw[←Array.getElem?_toList];rfl) ?_,?_,.inl ⟨none,rfl,rfl⟩⟩
 ·exact ints_heap [0,1] h1 rfl (by decide) fun j x hj=>by
   rcases j with _|_|j
   ·obtain rfl:=Option.some.inj hj;rfl
   ·obtain rfl:=Option.some.inj hj;rfl
   ·cases hj
 ·exact ints_heap [2] h3 rfl (by decide) fun j x hj=>by
   rcases j with _|j
   ·obtain rfl:=Option.some.inj hj;rfl
   ·cases hj
theorem shownB_list:shownB.data.toList=shownL:=rfl
def ShownAt (w w5:World):Prop:=FnIn w5 (shownF w.heap.size)∧HeapIs w5 (w.heap.size+1+1+1+1) #[.int .i64 2,.slice (some ⟨w.heap.size+1+1+1,0,none⟩) 1 1] 24∧Since w w5
theorem shown_at (w:World):ShownAt w (((((w.alloc (.cells #[.int .i64 0,.int .i64 1] 3)).alloc (.cells #[.int .i64 2,.int .i64 2,.int .i64 0,.slice (some ⟨w.heap.size,0,none⟩) 2 2,.int .i32 0] 51)).alloc (.cells #[.int .i64 2] 3)).alloc
  (.cells #[.slice none 0 0,.slice (some ⟨w.heap.size+1,0,none⟩) 1 1,.int .i64 4,.slice (some ⟨w.heap.size+1+1,0,none⟩) 1 1,.slice none 0 0,.int .i32 0] 57)).alloc (.cells #[.int .i64 2,.slice (some ⟨w.heap.size+1+1+1,0,none⟩) 1 1] 24)):=by
 have sz:∀ (u:World) (o:Obj),(u.alloc o).heap.size=u.heap.size+1:=fun u o=>by show (u.heap.push o).size=_;exact Array.size_push _
 have nw:∀ (u:World) (k:Nat) (cs:Array Value) (T:TypeId),u.heap.size=k→HeapIs (u.alloc (.cells cs T)) k cs T:=fun u k cs T h=>h ▸ HeapIs.new u cs T
 obtain⟨q,hq⟩:∃ q,w.heap.size=q:=⟨_,rfl⟩
 unfold ShownAt
 rw[hq]
 have m1:=nw w q #[.int .i64 0,.int .i64 1] 3 hq
 have z1:=(sz w (.cells #[.int .i64 0,.int .i64 1] 3)).trans (congrArg (· + 1) hq)
 have s1:Since w (w.alloc (.cells #[.int .i64 0,.int .i64 1] 3)):=(Since.refl w).alloc _
 generalize w.alloc (.cells #[.int .i64 0,.int .i64 1] 3)=w1 at *
 have m2:=nw w1 (q+1) #[.int .i64 2,.int .i64 2,.int .i64 0,.slice (some ⟨q,0,none⟩) 2 2,.int .i32 0] 51 z1
 have z2:=(sz w1 (.cells #[.int .i64 2,.int .i64 2,.int .i64 0,.slice (some ⟨q,0,none⟩) 2 2,.int .i32 0] 51)).trans (congrArg (· + 1) z1)
 have s2:Since w1 (w1.alloc (.cells #[.int .i64 2,.int .i64 2,.int .i64 0,.slice (some ⟨q,0,none⟩) 2 2,.int .i32 0] 51)):=(Since.refl w1).alloc _
 generalize w1.alloc (.cells #[.int .i64 2,.int .i64 2,.int .i64 0,.slice (some ⟨q,0,none⟩) 2 2,.int .i32 0] 51)=w2 at *
 have m3:=nw w2 (q+1+1) #[.int .i64 2] 3 z2
 have z3:=(sz w2 (.cells #[.int .i64 2] 3)).trans (congrArg (· + 1) z2)
 have s3:Since w2 (w2.alloc (.cells #[.int .i64 2] 3)):=(Since.refl w2).alloc _
 generalize w2.alloc (.cells #[.int .i64 2] 3)=w3 at *
 have m4:=nw w3 (q+1+1+1) #[.slice none 0 0,.slice (some ⟨q+1,0,none⟩) 1 1,.int .i64 4,.slice (some ⟨q+1+1,0,none⟩) 1 1,.slice none 0 0,.int .i32 0] 57 z3
 have z4:=(sz w3 (.cells #[.slice none 0 0,.slice (some ⟨q+1,0,none⟩) 1 1,.int .i64 4,.slice (some ⟨q+1+1,0,none⟩) 1 1,.slice none 0 0,.int .i32 0] 57)).trans (congrArg (· + 1) z3)
 have s4:Since w3 (w3.alloc (.cells #[.slice none 0 0,.slice (some ⟨q+1,0,none⟩) 1 1,.int .i64 4,.slice (some ⟨q+1+1,0,none⟩) 1 1,.slice none 0 0,.int .i32 0] 57)):=(Since.refl w3).alloc _
 generalize w3.alloc (.cells #[.slice none 0 0,.slice (some ⟨q+1,0,none⟩) 1 1,.int .i64 4,.slice (some ⟨q+1+1,0,none⟩) 1 1,.slice none 0 0,.int .i32 0] 57)=w4 at *
 have m5:=nw w4 (q+1+1+1+1) #[.int .i64 2,.slice (some ⟨q+1+1+1,0,none⟩) 1 1] 24 z4
 have s5:Since w4 (w4.alloc (.cells #[.int .i64 2,.slice (some ⟨q+1+1+1,0,none⟩) 1 1] 24)):=(Since.refl w4).alloc _
 exact⟨shownF_in (m1.keep (((s2.trans s3).trans s4).trans s5)) (m2.keep ((s3.trans s4).trans s5)) (m3.keep (s4.trans s5)) (m4.keep s5),m5,(((s1.trans s2).trans s3).trans s4).trans s5⟩
set_option maxHeartbeats 4000000 in
set_option maxRecDepth 100000 in
theorem shown25_any (w:World) (hL:LaidT w):Calls Tryz.prog 9 #[] w fun e w'=>e=.returned (.bool true)∧Since w w':=by
 have HL:=Lib.hid hL
 have HA:=Lib.hid (shown_at w)
 clear hL
 go_enter Tryz.func9,Tryz.ntmps9
 go_upto_region 3 with fail
 revert HA
 generalize (((((w.alloc (.cells #[.int .i64 0,.int .i64 1] 3)).alloc (.cells #[.int .i64 2,.int .i64 2,.int .i64 0,.slice (some ⟨w.heap.size,0,none⟩) 2 2,.int .i32 0] 51)).alloc (.cells #[.int .i64 2] 3)).alloc
  (.cells #[.slice none 0 0,.slice (some ⟨w.heap.size+1,0,none⟩) 1 1,.int .i64 4,.slice (some ⟨w.heap.size+1+1,0,none⟩) 1 1,.slice none 0 0,.int .i32 0] 57)).alloc (.cells #[.int .i64 2,.slice (some ⟨w.heap.size+1+1+1,0,none⟩) 1 1] 24))=w5
 intro HA
 obtain⟨hf0,hb0,hs0⟩:=HA.out
 have HF0:=Lib.hid hf0
 have HB0:=Lib.hid hb0
 have HS0:=Lib.hid hs0
 clear hf0 hb0 hs0
 generalize w.heap.size=q at *
 clear HA
 go_wp2_with fail
 refine (parse_any shownB w5 (by decide) (HL.out.keep HS0.out)).mono ?_
 rintro e w6 ⟨f,line,er,rfl,hf,hd,hs6⟩
 rw[shownB_list,shown_parse]at hd
 obtain rfl:line=0:=congrArg PRes.line hd
 obtain rfl:er=0:=congrArg PRes.e hd
 have HD:=Lib.hid (congrArg PRes.f hd)
 have HF:=Lib.hid hf
 have HS6:=Lib.hid hs6
 clear hf hd hs6
 obtain⟨p1,b1,v1⟩:=f
 obtain⟨a1,c1,e1,_⟩:=RowIn.shape HF.out
 obtain⟨n1,hn1⟩:∃ n,b1.length=n:=⟨_,rfl⟩
 replace e1:v1=.slice a1 n1 c1:=by rw[←hn1];exact e1
 subst e1
 clear hn1
 unfold fv
 dsimp only
 go_upto_region 4 with fail
 have hs7:Since w6 (w6.alloc (.cells #[.int .i64 p1,.slice a1 n1 c1] 24)):=(Since.refl w6).alloc _
 have hb1:=HeapIs.new w6 #[.int .i64 p1,.slice a1 n1 c1] 24
 obtain⟨w7,hw7⟩:∃ w7,w6.alloc (.cells #[.int .i64 p1,.slice a1 n1 c1] 24)=w7:=⟨_,rfl⟩
 obtain⟨q1,hq1⟩:∃ q,w6.heap.size=q:=⟨_,rfl⟩
 rw[hw7]at hs7 hb1
 rw[hq1]at hb1
 try rw[hw7]
 try rw[hq1]
 have HB1:=Lib.hid hb1
 have HS7:=Lib.hid hs7
 clear hs7 hb1 hw7 hq1
 have g0:=HB0.out.keep (HS6.out.trans HS7.out)
 have z00:=g0.cell 0
 have z01:=g0.cell 1
 have z0l:=g0.lt
 clear g0
 have HT:=Lib.hid (text_func (shownF q) w7 (HF0.out.keep (HS6.out.trans HS7.out)) (shownF_r q) ((HL.out.keep HS0.out).keep (HS6.out.trans HS7.out)) (by rw[shownF_d,shown_text];decide))
 go_wp2_with fail
 refine HT.out.mono ?_
 rintro e w8 ⟨rfl,hs8⟩
 rw[shownF_d,shown_text]
 have HS8:=Lib.hid hs8
 have HC:=Lib.hid (same_any (shownF q) ⟨p1,b1,.slice a1 n1 c1⟩ w8 (HF0.out.keep ((HS6.out.trans HS7.out).trans hs8)) (HF.out.keep (HS7.out.trans hs8)) ((shownF_d q).trans HD.out.symm) (fn3_of _ (by rw[shownF_d];exact shown_dfn)) (fn3_of _ (by rw[HD.out];exact shown_dfn)) (print3_len _ (by rw[shownF_d];exact shown_dfn)))
 have g0:=HB0.out.keep ((HS6.out.trans HS7.out).trans hs8)
 have y00:=g0.cell 0
 have y01:=g0.cell 1
 have y0l:=g0.lt
 have g1:=HB1.out.keep hs8
 have y10:=g1.cell 0
 have y11:=g1.cell 1
 have y1l:=g1.lt
 clear hs8 g0 g1 z00 z01 z0l
 go_wp2_with fail
 refine HC.out.mono ?_
 rintro e w9 ⟨rfl,hs9⟩
 have HS9:=Lib.hid (((HS0.out.trans HS6.out).trans (HS7.out.trans HS8.out)).trans hs9)
 clear hs9
 go_wp2
 go_ret
 exact⟨rfl,HS9.out⟩
theorem RowIn.cut {α:Type} {f : α→List Value} {sz:Nat} {p : World→α→Prop} {w : World} {a : Option Addr} {n c k:Nat} {l : List α} (h:RowIn f sz p w (.slice a n c) l) (hk:k≤n):RowIn f sz p w (.slice a k c) (l.take k):=by
 rcases h with ⟨x,h1,h2⟩|⟨b,off,cap,h1,h2,h3,h4,h5⟩
 ·cases h1
  obtain rfl:k=0:=by omega
  exact .inl ⟨_,rfl,by simp⟩
 ·cases h1
  have hl:(l.take k).length=k:=by rw[List.length_take];omega
  refine .inr ⟨b,off,_,by rw[hl],by omega,h3,h4,fun j x hj=>h5 j x ?_⟩
  have:=(List.getElem?_eq_some_iff.1 hj).1
  rwa [List.getElem?_take_of_lt (by omega)]at hj
theorem Nums.cutTo {kd:IntKind} {w : World} {a : Option Addr} {n c k:Nat} {l : List Int} (h:Nums kd w (.slice a n c) l) (hk:k≤n):Nums kd w (.slice a k c) (l.take k):=by
 rcases h with ⟨x,h1,h2⟩|⟨b,off,cap,h1,h2,h3,h4,h5⟩
 ·cases h1
  obtain rfl:k=0:=by omega
  exact .inl ⟨_,rfl,by simp⟩
 ·cases h1
  have hl:(l.take k).length=k:=by rw[List.length_take];omega
  refine .inr ⟨b,off,_,by rw[hl],by omega,h3,h4,fun j x hj=>h5 j x ?_⟩
  have:=(List.getElem?_eq_some_iff.1 hj).1
  rwa [List.getElem?_take_of_lt (by omega)]at hj
section
variable {wx w w':World} {q : Nat} {k im:Int} {av tv phv inv phv' inv':Value} {phl:List FPhi} {il:List FIns}
end
section
variable {wa w0 w w':World} {qg:Nat} {p : Int} {gv gv':Value} {gl:List FBlk}
end
end Go.Proofs.YtmhojfpidedjeaaGreatDoor
