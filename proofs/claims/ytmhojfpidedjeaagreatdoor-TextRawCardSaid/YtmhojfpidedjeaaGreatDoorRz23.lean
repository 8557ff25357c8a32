/- Plain: a text byte by byte into its lines' words, as the document goes. The rows that the document's Lines builds, as they lie in memory. The document's Lines: the walk. -/
import Derived.Test.YtmhojfpidedjeaaGreatDoorRz02
import Derived.Test.YtmhojfpidedjeaaGreatDoorRz19
namespace Go.Proofs.YtmhojfpidedjeaaGreatDoor
set_option linter.unusedVariables false
def mkB (l:Bs):ByteArray:=⟨l.toArray⟩
def pushW (l:List ByteArray) (now:Bs):List ByteArray:=if now=[] then l else l++[mkB now]
def emitL (n:Int) (l:List ByteArray):List (List ByteArray × Int):=if l=[] then [] else [(l,n)]
def lrun:Int→List ByteArray→Bs→Bool→Bs→List (List ByteArray × Int) × Int
 | n,l,now,note,[]=>(emitL n (pushW l now),n)
 | n,l,now,note,c::r =>
  if c=10 then (emitL n (pushW l now)++(lrun (n+1) [] [] false r).1,(lrun (n+1) [] [] false r).2)
  else if (note||c==35)=true then lrun n (pushW l now) [] true r
  else if isSep c=true then lrun n (pushW l now) [] false r
  else lrun n l (now++[c]) false r
def numd:Int→List (List ByteArray)→List (List ByteArray × Int)
 | _,[]=>[]
 | n,x::r=>emitL n x++numd (n+1) r
def wgo (now:Bs) (note:Bool) (h:Bs):List ByteArray:=if note=true then pushW [] now else (fldGo now (ahead 35 h)).map mkB
theorem pushW_eq (l:List ByteArray) (now:Bs):pushW l now=l++pushW [] now:=by
 unfold pushW;by_cases h:now=[]<;>simp[h]
theorem wgo_nil (now:Bs) (note:Bool):wgo now note []=pushW [] now:=by
 unfold wgo
 cases note with
 | true=>rfl
 | false=>simp only[ahead,List.takeWhile_nil,fldGo,pushW];by_cases h:now=[]<;>simp[h]
theorem wgo_note (now:Bs) (note:Bool) (c:UInt8) (h:Bs) (hc:(note||c==35)=true):wgo now note (c::h)=pushW [] now++wgo [] true h:=by
 unfold wgo
 cases note with
 | true=>simp[pushW]
 | false =>
  have:c=35:=by simpa using hc
  subst this
  have e:ahead 35 (35::h)=[]:=by unfold ahead;simp
  rw[e]
  simp only[fldGo,pushW];by_cases h:now=[]<;>simp[h]
theorem wgo_sep (now:Bs) (c:UInt8) (h:Bs) (hn:(false||c==35)=false) (hc:isSep c=true):wgo now false (c::h)=pushW [] now++wgo [] false h:=by
 have hne:(c != 35)=true:=by simpa using hn
 have e:ahead 35 (c::h)=c::ahead 35 h:=by unfold ahead;rw[List.takeWhile_cons];rw[if_pos hne]
 unfold wgo
 simp only[e,fldGo,hc,if_true,pushW]
 by_cases h:now=[]<;>simp[h]
theorem wgo_other (now:Bs) (c:UInt8) (h:Bs) (hn:(false||c==35)=false) (hc:¬ isSep c=true):wgo now false (c::h)=wgo (now++[c]) false h:=by
 have hne:(c != 35)=true:=by simpa using hn
 have e:ahead 35 (c::h)=c::ahead 35 h:=by unfold ahead;rw[List.takeWhile_cons];rw[if_pos hne]
 unfold wgo
 simp only[e,fldGo,if_neg hc]
 rfl
theorem spl_some (c:UInt8):∀ l:Bs,∃ h t,spl c l=h::t
 | []=>⟨[],[],rfl⟩
 | x::r=>by
  obtain⟨h,t,e⟩:=spl_some c r
  unfold spl
  by_cases hx:x=c
  ·exact⟨[],spl c r,by rw[if_pos hx]⟩
  ·exact⟨x::h,t,by rw[if_neg hx,e]⟩
theorem spl_at (c:UInt8) (r:Bs):spl c (c::r)=[]::spl c r:=by rw[spl,if_pos rfl]
theorem spl_past {c x:UInt8} {r h:Bs} {t : List Bs} (hx:¬ x=c) (e:spl c r=h::t):spl c (x::r)=(x::h)::t:=by rw[spl,if_neg hx,e]
theorem lrun_spl:∀ (s:Bs) (n:Int) (l:List ByteArray) (now:Bs) (note:Bool) (h:Bs) (t:List Bs),spl 10 s=h::t →
  lrun n l now note s=(emitL n (l++wgo now note h)++numd (n+1) (t.map wordsOf),n+t.length)
 | [],n,l,now,note,h,t,e=>by
  simp only[spl,List.cons.injEq]at e
  obtain⟨rfl,rfl⟩:=e
  rw[lrun,wgo_nil,pushW_eq]
  simp[numd]
 | c::r,n,l,now,note,h,t,e=>by
  obtain⟨h2,t2,e2⟩:=spl_some 10 r
  rw[lrun]
  by_cases hc:c=10
  ·subst hc
   rw[spl_at]at e
   simp only[List.cons.injEq]at e
   obtain⟨rfl,rfl⟩:=e
   rw[if_pos rfl,lrun_spl r (n+1) [] [] false h2 t2 e2,wgo_nil,pushW_eq,e2]
   simp only[List.nil_append,List.map_cons,numd,List.length_cons]
   have:wgo [] false h2=wordsOf h2:=rfl
   rw[this]
   refine Prod.ext rfl ?_
   show n+1+(t2.length:Int)=n+((t2.length+1:Nat):Int)
   omega
  ·rw[spl_past hc e2]at e
   simp only[List.cons.injEq]at e
   obtain⟨rfl,rfl⟩:=e
   rw[if_neg hc]
   cases hn:(note||c==35) with
   | true =>
    rw[if_pos rfl,lrun_spl r n _ [] true h2 t2 e2,wgo_note now note c h2 hn,pushW_eq l now,List.append_assoc]
   | false =>
    have hnf:note=false:=by cases note<;>simp_all
    subst hnf
    rw[if_neg (by simp)]
    by_cases hs:isSep c=true
    ·rw[if_pos hs,lrun_spl r n _ [] false h2 t2 e2,wgo_sep now c h2 hn hs,pushW_eq l now,List.append_assoc]
    ·rw[if_neg hs,lrun_spl r n l _ false h2 t2 e2,wgo_other now c h2 hn hs]
theorem lrun_lines (s:Bs):lrun 1 [] [] false s=(numd 1 (linesOf s),((linesOf s).length:Int)):=by
 obtain⟨h,t,e⟩:=spl_some 10 s
 rw[lrun_spl s 1 [] [] false h t e]
 unfold linesOf
 rw[e]
 have:wgo [] false h=wordsOf h:=rfl
 simp only[List.nil_append,this,List.map_cons,numd,List.length_cons,List.length_map]
 refine Prod.ext rfl ?_
 show 1+(t.length:Int)=((t.length+1:Nat):Int)
 omega
open Go.RowKit
structure LnV where
 ws:List ByteArray
 wv:Value
 n:Int
def lncells (x:LnV):List Value:=[x.wv,.int .i64 x.n]
theorem lncells_len (x:LnV):(lncells x).length=2:=rfl
def LnV.d (x:LnV):List ByteArray × Int:=(x.ws,x.n)
def LnOk (w:World) (x:LnV):Prop:=StrsIn w x.wv x.ws
theorem LnOk.keep (w w':World) (x:LnV) (h:LnOk w x) (s:Since w w'):LnOk w' x:=StrsIn.keep h s
theorem LnOk.turn {S : Nat→Prop} {w w':World} {x : LnV} (h:LnOk w x) (t:Turn S w w') (hn:∀ q,x.wv.ownBlock=some q→¬ S q):LnOk w' x:=RowIn.turn (show StrsIn w x.wv x.ws from h) t hn (fun _ _ h=>h)
abbrev LinesIn (w:World) (v:Value) (l:List LnV):Prop:=RowIn lncells 2 LnOk w v l
structure LInv (base:Nat) (w:World) (ov:Value) (outl:List LnV) (lv:Value) (ll:List ByteArray):Prop where
 out:OwnRow lncells 2 121 base w ov outl
 l:OwnRow stc 1 9 base w lv ll
 each:∀ x∈outl,LnOk w x∧Stays (fun q=>lv.ownBlock=some q∨ov.ownBlock=some q) w x.wv
 small:∀ x∈ll,x.size≤1000000
section
variable {base:Nat} {w w':World} {ov lv ov' lv':Value} {outl:List LnV} {ll:List ByteArray}
theorem LInv.keep (h:LInv base w ov outl lv ll) (s:Since w w'):LInv base w' ov outl lv ll:=
 ⟨OwnRow.keep h.out s,OwnRow.keep h.l s,fun x hx=>⟨LnOk.keep _ _ _ (h.each x hx).1 s,(h.each x hx).2.mono (fun q hq=>.inl hq) s.size⟩,h.small⟩
theorem LInv.push (h:LInv base w ov outl lv ll) {b : ByteArray} (hb:b.size≤1000000) (ho:OwnRow stc 1 9 base w' lv' (ll++[b])) (t:Turn (fun q=>lv.ownBlock=some q) w w') (hn:NewOr w lv lv'):LInv base w' ov outl lv' (ll++[b]):=by
 refine⟨own_turn h.out t fun q hq hr=>own_ne h.out h.l (by decide) q hq hr,ho,fun x hx=>?_,fun x hx=>?_⟩
 ·obtain⟨h1,h2⟩:=h.each x hx
  refine⟨LnOk.turn h1 t (fun q hq hr=>(h2 q hq).1 (.inl hr)),h2.mono (fun q hq=>?_) t.size⟩
  rcases hq with hq|hq
  ·rcases hn q hq with h3|h3
   ·exact .inl (.inl h3)
   ·exact .inr h3
  ·exact .inl (.inr hq)
 ·rcases List.mem_append.1 hx with h1|h1
  ·exact h.small x h1
  ·rw[List.mem_singleton.1 h1];exact hb
theorem LInv.fresh (h:LInv base w ov outl lv ll) (hb:base≤w.heap.size):LInv base (w.alloc (.cells #[] 9)) ov outl (.slice (some ⟨w.heap.size,0,none⟩) 0 0) []:=by
 have s:Since w (w.alloc (.cells #[] 9)):=(Since.refl w).alloc _
 refine⟨OwnRow.keep h.out s,own_low (own_new stc 1 9 w [] 0 (fun _=>rfl) rfl (by decide) _ rfl) hb,fun x hx=>?_,fun x hx=>by cases hx⟩
 obtain⟨h1,h2⟩:=h.each x hx
 refine⟨LnOk.keep _ _ _ h1 s,fun q hq=>⟨fun hr=>?_,Nat.lt_of_lt_of_le (h2 q hq).2 s.size⟩⟩
 rcases hr with hr|hr
 ·cases hr;exact Nat.lt_irrefl _ (h2 _ hq).2
 ·exact (h2 q hq).1 (.inr hr)
theorem LInv.emit (h:LInv base w ov outl lv ll) {n : Int} (ho:OwnRow lncells 2 121 base w' ov' (outl++[⟨ll,lv,n⟩])) (t:Turn (fun q=>ov.ownBlock=some q) w w') (hn:NewOr w ov ov') (hb:base≤w.heap.size):LInv base (w'.alloc (.cells #[] 9)) ov' (outl++[⟨ll,lv,n⟩]) (.slice (some ⟨w'.heap.size,0,none⟩) 0 0) []:=by
 have s:Since w' (w'.alloc (.cells #[] 9)):=(Since.refl w').alloc _
 have hz:=t.size
 have key:∀ x:LnV,LnOk w x→(∀ q,x.wv.ownBlock=some q→¬ ov.ownBlock=some q∧q<w.heap.size)→LnOk (w'.alloc (.cells #[] 9)) x∧Stays (fun q=>(Value.slice (some ⟨w'.heap.size,0,none⟩) 0 0).ownBlock=some q∨ov'.ownBlock=some q) (w'.alloc (.cells #[] 9)) x.wv:=fun x h1 h2=>by
  refine⟨LnOk.keep _ _ _ (LnOk.turn h1 t (fun q hq hr=>(h2 q hq).1 hr)) s,fun q hq=>⟨fun hr=>?_,?_⟩⟩
  ·rcases hr with hr|hr
   ·have e:w'.heap.size=q:=by cases hr;rfl
    have:=(h2 _ hq).2;omega
   ·rcases hn q hr with h3|h3
    ·exact (h2 q hq).1 h3
    ·have:=(h2 q hq).2;omega
  ·exact Nat.lt_of_lt_of_le (Nat.lt_of_lt_of_le (h2 q hq).2 hz) s.size
 refine⟨OwnRow.keep ho s,own_low (own_new stc 1 9 w' [] 0 (fun _=>rfl) rfl (by decide) _ rfl) (by omega),fun x hx=>?_,fun x hx=>by cases hx⟩
 rcases List.mem_append.1 hx with h1|h1
 ·exact key x (h.each x h1).1 fun q hq=>⟨fun hr=>((h.each x h1).2 q hq).1 (.inr hr),((h.each x h1).2 q hq).2⟩
 ·rw[List.mem_singleton.1 h1]
  refine key _ (show StrsIn w lv ll from row_of_own stc_len h.l fun y hy=>h.small y hy) fun q hq=>⟨fun hr=>own_ne h.l h.out (by decide) q hq hr,(World.ownsRow.lt h.l q hq).2⟩
end
def RLinesQ (s:ByteArray) (w:World) (e:Ending) (w':World):Prop:=∃ v l,e=.returned (.tuple #[v,.int .i64 (linesOf s.data.toList).length])∧LinesIn w' v l∧l.map LnV.d=numd 1 (linesOf s.data.toList)∧Since w w'
def LRel (s:ByteArray) (i:Nat) (n:Int) (outl:List LnV) (ll:List ByteArray) (nb:ByteArray) (note:Bool):Prop:=
 if i≤s.size then (outl.map LnV.d++(lrun n ll nb.data.toList note (s.data.toList.drop i)).1,(lrun n ll nb.data.toList note (s.data.toList.drop i)).2)=lrun 1 [] [] false s.data.toList else (outl.map LnV.d,n)=lrun 1 [] [] false s.data.toList
section
variable {s : ByteArray} {i : Nat} {n : Int} {outl:List LnV} {ll:List ByteArray} {nb:ByteArray} {note:Bool}
theorem nb_nil {nb:ByteArray} (h:nb.data.toList=[]):nb=⟨#[]⟩:=by
 apply bytes_ext;simpa using h
theorem nb_some {nb:ByteArray} (h:¬ nb=⟨#[]⟩):¬ nb.data.toList=[]:=fun e=>h (nb_nil e)
theorem mk_nb (nb:ByteArray):mkB nb.data.toList=nb:=by apply bytes_ext;simp[mkB]
def pushB (ll:List ByteArray) (nb:ByteArray):List ByteArray:=if nb=⟨#[]⟩ then ll else ll++[nb]
theorem push_nb (ll:List ByteArray) (nb:ByteArray):pushW ll nb.data.toList=pushB ll nb:=by
 unfold pushW pushB
 by_cases h:nb=⟨#[]⟩
 ·subst h;rfl
 ·rw[if_neg h,if_neg (nb_some h),mk_nb]
def emitV (n:Int) (l:List ByteArray) (lv:Value):List LnV:=if l=[] then [] else [⟨l,lv,n⟩]
theorem emit_v (n:Int) (l:List ByteArray) (lv:Value):(emitV n l lv).map LnV.d=emitL n l:=by
 unfold emitV emitL;by_cases h:l=[]<;>simp[h,LnV.d]
theorem LRel.last (h:LRel s s.size n outl ll nb note) (lv:Value):LRel s (s.size+1) n (outl++emitV n (pushB ll nb) lv) [] ⟨#[]⟩ false:=by
 unfold LRel at h ⊢
 rw[if_pos (Nat.le_refl _),List.drop_eq_nil_of_le (by rw[bytes_len];exact Nat.le_refl _)]at h
 rw[if_neg (by omega),List.map_append,emit_v,←push_nb]
 exact h
theorem LRel.step (h:LRel s i n outl ll nb note) (hi:i<s.size):(outl.map LnV.d++(lrun n ll nb.data.toList note (s[i]::s.data.toList.drop (i+1))).1,(lrun n ll nb.data.toList note (s[i]::s.data.toList.drop (i+1))).2)=lrun 1 [] [] false s.data.toList:=by
 unfold LRel at h
 rw[if_pos (by omega),byte_at s hi]at h
 exact h
theorem LRel.end (h:LRel s i n outl ll nb note) (hi:i<s.size) (hc:s[i]=10) (lv:Value):LRel s (i+1) (n+1) (outl++emitV n (pushB ll nb) lv) [] ⟨#[]⟩ false:=by
 have h1:=h.step hi
 unfold LRel
 rw[lrun,if_pos hc]at h1
 rw[if_pos (by omega),List.map_append,emit_v,←push_nb,List.append_assoc]
 exact h1
theorem LRel.hash (h:LRel s i n outl ll nb note) (hi:i<s.size) (hc:¬ s[i]=10) (hn:(note||s[i]==35)=true):LRel s (i+1) n outl (pushB ll nb) ⟨#[]⟩ true:=by
 have h1:=h.step hi
 unfold LRel
 rw[lrun,if_neg hc,if_pos hn]at h1
 rw[if_pos (by omega),←push_nb]
 exact h1
theorem LRel.sep (h:LRel s i n outl ll nb false) (hi:i<s.size) (hc:¬ s[i]=10) (hn:¬ s[i]=35) (hs:isSep s[i]=true):LRel s (i+1) n outl (pushB ll nb) ⟨#[]⟩ false:=by
 have h1:=h.step hi
 unfold LRel
 rw[lrun,if_neg hc,if_neg (by simpa using hn),if_pos hs]at h1
 rw[if_pos (by omega),←push_nb]
 exact h1
theorem LRel.other (h:LRel s i n outl ll nb false) (hi:i<s.size) (hc:¬ s[i]=10) (hn:¬ s[i]=35) (hs:¬ isSep s[i]=true) {nb2:ByteArray} (h2:nb2.data.toList=nb.data.toList++[s[i]]):LRel s (i+1) n outl ll nb2 false:=by
 have h1:=h.step hi
 unfold LRel
 rw[lrun,if_neg hc,if_neg (by simpa using hn),if_neg hs]at h1
 rw[if_pos (by omega),h2]
 exact h1
end
structure LSt (w0 w:World) (ov:Value) (outl:List LnV) (lv:Value) (ll:List ByteArray):Prop where
 inv:LInv w0.heap.size w ov outl lv ll
 old:Since w0 w
section
variable {w0 w w':World} {ov lv ov' lv':Value} {outl:List LnV} {ll:List ByteArray}
theorem LSt.start (w:World):LSt w ((w.alloc (.cells #[] 121)).alloc (.cells #[] 9)) (.slice (some ⟨w.heap.size,0,none⟩) 0 0) [] (.slice (some ⟨w.heap.size+1,0,none⟩) 0 0) []:=by
 have e:(w.alloc (.cells #[] 121)).heap.size=w.heap.size+1:=by simp
 have s1:Since w (w.alloc (.cells #[] 121)):=(Since.refl w).alloc _
 have h1:=own_new lncells 2 121 w [] 0 lncells_len rfl (by decide) _ rfl
 have h2:=own_new stc 1 9 (w.alloc (.cells #[] 121)) [] 0 stc_len rfl (by decide) _ rfl
 rw[e]at h2
 exact⟨⟨OwnRow.keep h1 ((Since.refl _).alloc _),own_low h2 (Nat.le_succ _),fun x hx=>(by cases hx),fun x hx=>(by cases hx)⟩,s1.alloc _⟩
theorem LSt.keep (h:LSt w0 w ov outl lv ll) (s:Since w w'):LSt w0 w' ov outl lv ll:=⟨h.inv.keep s,h.old.trans s⟩
theorem LSt.push (h:LSt w0 w ov outl lv ll) {b : ByteArray} (hb:b.size≤1000000) (ho:OwnRow stc 1 9 w0.heap.size w' lv' (ll++[b])) (t:Turn (fun q=>lv.ownBlock=some q) w w') (hn:NewOr w lv lv'):LSt w0 w' ov outl lv' (ll++[b]):=
 ⟨h.inv.push hb ho t hn,t.toSince h.old fun q hq hr=>by have:=(World.ownsRow.lt h.inv.l q hr).1;omega⟩
theorem LSt.fresh (h:LSt w0 w ov outl lv ll):LSt w0 (w.alloc (.cells #[] 9)) ov outl (.slice (some ⟨w.heap.size,0,none⟩) 0 0) []:=⟨h.inv.fresh h.old.size,h.old.alloc _⟩
theorem LSt.emit (h:LSt w0 w ov outl lv ll) {n : Int} (ho:OwnRow lncells 2 121 w0.heap.size w' ov' (outl++[⟨ll,lv,n⟩])) (t:Turn (fun q=>ov.ownBlock=some q) w w') (hn:NewOr w ov ov'):LSt w0 (w'.alloc (.cells #[] 9)) ov' (outl++[⟨ll,lv,n⟩]) (.slice (some ⟨w'.heap.size,0,none⟩) 0 0) []:=
 ⟨h.inv.emit ho t hn h.old.size,(t.toSince h.old fun q hq hr=>by have:=(World.ownsRow.lt h.inv.out q hr).1;omega).alloc _⟩
theorem pushB_nil (ll:List ByteArray) {nb:ByteArray} (h:nb=⟨#[]⟩):pushB ll nb=ll:=if_pos h
theorem pushB_some (ll:List ByteArray) {nb:ByteArray} (h:¬ nb=⟨#[]⟩):pushB ll nb=ll++[nb]:=if_neg h
theorem emitV_nil (n:Int) (lv:Value) (outl:List LnV):outl++emitV n [] lv=outl:=by simp[emitV]
theorem emitV_some (n:Int) (lv:Value) {l : List ByteArray} (h:l≠[]):emitV n l lv=[⟨l,lv,n⟩]:=if_neg h
theorem nb_yes {nb:ByteArray} (h:nb=⟨#[]⟩):(nb.toList==[])=true:=by subst h;kernel_rfl
theorem nb_not {nb:ByteArray} (h:¬ nb=⟨#[]⟩):(nb.toList==[])=false:=by
 have h2:=(Lib.bytes_beq_false_iff nb ⟨#[]⟩).2 h
 have:(⟨#[]⟩:ByteArray).toList=[]:=by kernel_rfl
 rwa [this]at h2
theorem byte_not {x : UInt8} {k : Nat} (h:¬ x=UInt8.ofNat k) (hk:k<256):((x.toNat:Int)==(k:Int))=false:=by
 rw[beq_eq_false_iff_ne];intro e
 apply h
 apply UInt8.toNat_inj.1
 rw[UInt8.toNat_ofNat_of_lt' (by show k<256;exact hk)]
 omega
theorem more_list (nb s:ByteArray) {i : Nat} (h:i<s.size):(nb++s.extract i (i+1)).data.toList=nb.data.toList++[s[i]]:=by
 have h2:i<s.data.size:=h
 have e:(s.extract i (i+1)).data.toList=[s[i]]:=by
  rw[Lib.extract_data,byte_at s h]
  simp
 have e2:(nb++s.extract i (i+1)).data=nb.data++(s.extract i (i+1)).data:=ByteArray.data_append
 rw[e2,Array.toList_append,e]
theorem more_size (nb s:ByteArray) {i : Nat} (h:i<s.size) (hb:nb.size≤i):(nb++s.extract i (i+1)).size≤i+1:=by
 rw[←bytes_len,more_list nb s h,List.length_append,bytes_len];simp;exact hb
theorem stc_one (b:ByteArray):∀ u∈stc b,u.oneCell'=true:=fun u hu=>by rw[List.mem_singleton.1 hu];rfl
theorem lncells_one (ws:List ByteArray) (a:Option Addr) (m c:Nat) (n:Int):∀ u∈lncells ⟨ws,.slice a m c,n⟩,u.oneCell'=true:=fun u hu=>by simp[lncells]at hu;rcases hu with rfl | rfl<;>rfl
theorem LSt.rows (h:LSt w0 w ov outl lv ll):LinesIn w ov outl:=row_of_own lncells_len h.inv.out fun x hx=>(h.inv.each x hx).1
theorem LRel.done {s : ByteArray} {i : Nat} {n : Int} {nb:ByteArray} {note:Bool} (h:LRel s i n outl ll nb note) (hi:s.size<i):outl.map LnV.d=numd 1 (linesOf s.data.toList)∧n=((linesOf s.data.toList).length:Int):=by
 unfold LRel at h
 rw[if_neg (by omega),lrun_lines]at h
 exact⟨congrArg Prod.fst h,congrArg Prod.snd h⟩
end
set_option maxHeartbeats 8000000 in
set_option maxRecDepth 100000 in
theorem rlines_any (s:ByteArray) (w:World) (hs:s.size≤400000):Calls Tryz.prog 52 #[.string s] w (RLinesQ s w):=by
 go_enter Tryz.func52,Tryz.ntmps52
 go_wp2_with fail
 go_loopw [4,5,6,7,8,9] (fun ov no lv bo so io wr=>∃ (i:Nat) (n:Int) (outl:List LnV) (ll:List ByteArray) (nb:ByteArray) (note:Bool),io=.int .i64 i∧i≤s.size+1∧no=.int .i64 n∧(1≤n∧n≤i+1)∧bo=.string nb∧so=.bool note∧(nb.size≤i∧outl.length≤i∧ll.length≤i)∧LSt w wr ov outl lv ll∧LRel s i n outl ll nb note) (fun _ _ _ _ _ io _=>s.size+2-(intOf io).toNat)
 case atStart =>
  refine⟨0,1,[],[],⟨#[]⟩,false,rfl,by omega,rfl,by omega,rfl,rfl,⟨by decide,by decide,by decide⟩,?_,?_⟩
  ·exact LSt.start w
  ·unfold LRel;rw[if_pos (Nat.zero_le _)];rfl
 case round =>
  obtain⟨i,n,outl,ll,nb,note,rfl,hi,rfl,hn,rfl,rfl,hb,hv,hr⟩:=hrel
  obtain⟨oa,oc,e1⟩:=own_shape hv.inv.out
  obtain⟨la,lc,e2⟩:=own_shape hv.inv.l
  obtain⟨ko,hko⟩:∃ k,outl.length=k:=⟨_,rfl⟩
  obtain⟨kl,hkl⟩:∃ k,ll.length=k:=⟨_,rfl⟩
  rw[hko]at e1
  rw[hkl]at e2
  subst e1 e2
  rw[hko,hkl]at hb
  have HKO:=Lib.hid hko
  have HKL:=Lib.hid hkl
  have HV:=Lib.hid hv
  have HR:=Lib.hid hr
  clear hko hkl hv hr
  by_cases hlt:i<s.size
  ·by_cases hc:s[i]=10
   ·have hq10:((s[i].toNat:Int)==10)=true:=by rw[hc];rfl
    have hE:((i:Int)==(s.size:Int))=false:=by rw[beq_eq_false_iff_ne];omega
    have HR1:=Lib.hid (fun lv=>HR.out.end hlt hc lv)
    clear hc
    by_cases hne:nb=⟨#[]⟩
    ·have hq:=nb_yes hne
     have HP:=Lib.hid (pushB_nil ll hne)
     clear hne
     by_cases hl0:kl=0
     ·subst hl0
      have HLL:=Lib.hid (List.length_eq_zero_iff.1 HKL.out)
      have HR2:=Lib.hid (show LRel s (i+1) (n+1) outl [] ⟨#[]⟩ false from by have:=HR1.out undef;rw[HP.out,HLL.out,emitV_nil]at this;exact this)
      have HV4:=Lib.hid HV.out.fresh
      go_wp2
      go_roundw
      case rel=>exact⟨i+1,n+1,outl,[],⟨#[]⟩,false,by go_num,by omega,by go_num,by omega,rfl,rfl,⟨Nat.zero_le _,by rw[HKO.out];omega,Nat.zero_le _⟩,HV4.out,HR2.out⟩
      case measure=>simp[intOf];omega
     ·have hk0:0<kl:=by omega
      have HLL:=Lib.hid (show ll≠[] from fun e=>hl0 (by rw[←HKL.out,e];rfl))
      have HR2:=Lib.hid (show LRel s (i+1) (n+1) (outl++[⟨ll,.slice la kl lc,n⟩]) [] ⟨#[]⟩ false from by have:=HR1.out (.slice la kl lc);rw[HP.out,emitV_some n _ HLL.out]at this;exact this)
      have HV3:=Lib.hid (HV.out.keep ((Since.refl wr).alloc (.cells #[.slice la kl lc,.int .i64 n] 121)))
      have HNL:=Lib.hid (HeapIs.new wr #[.slice la kl lc,.int .i64 n] 121)
      clear hl0
      go_wp2_with (at_builtin;refine wpList_append_one2 lncells 2 lncells_len (by decide) rfl _ _ 114 rfl 121 (.agg #[.slice none 0 0,.int .i64 0]) 32 Tryz.underlying114 (by kernel_rfl) rfl (.slice oa ko oc) outl ⟨ll,.slice la kl lc,n⟩ _ 1 _ rfl rfl HV3.out.inv.out HNL.out (lncells_one _ _ _ _ _) (by rw[HKO.out];unfold maxLen;omega) (by rw[HKO.out];omega) HV3.out.old.size ?_;intro v8 w8 ho8 ht8 hn8;have HV4:=Lib.hid (HV3.out.emit ho8 ht8 hn8);clear ho8 ht8 hn8)
      go_roundw
      case rel=>exact⟨i+1,n+1,_,[],⟨#[]⟩,false,by go_num,by omega,by go_num,by omega,rfl,rfl,⟨Nat.zero_le _,by rw[List.length_append,HKO.out];simp;omega,Nat.zero_le _⟩,HV4.out,HR2.out⟩
      case measure=>simp[intOf];omega
    ·have HP:=Lib.hid (pushB_some ll hne)
     have hq:=nb_not hne
     have HNE:=Lib.hid hne
     have HV1:=Lib.hid (HV.out.keep ((Since.refl wr).alloc (.cells #[.string nb] 9)))
     have HNB:=Lib.hid (HeapIs.new wr #[.string nb] 9)
     obtain⟨km,hkm⟩:∃ k,(ll++[nb]).length=k:=⟨_,rfl⟩
     have hkp:0<km∧km=kl+1:=by rw[List.length_append,HKL.out]at hkm;simp at hkm;omega
     have HKP:=Lib.hid hkp
     have hk0:=hkp.1
     have HKM:=Lib.hid hkm
     have HSZ:=Lib.hid (show nb.size≤1000000 from by omega)
     clear hne hkm hkp
     have HR2:=Lib.hid (fun lv=>(show LRel s (i+1) (n+1) (outl++[⟨ll++[nb],lv,n⟩]) [] ⟨#[]⟩ false from by have:=HR1.out lv;rw[HP.out,emitV_some n _ (by simp)]at this;exact this))
     go_wp2_with (first | (at_builtin;refine wpList_append_one2 stc 1 stc_len (by decide) rfl _ _ 89 rfl 9 (.string ⟨#[]⟩) 16 Tryz.underlying89 (by kernel_rfl) rfl (.slice la kl lc) ll nb _ 1 _ rfl rfl HV1.out.inv.l HNB.out (stc_one nb) (by rw[HKL.out];unfold maxLen;omega) (by rw[HKL.out];omega) HV1.out.old.size ?_;intro v9 w9 ho9 ht9 hn9;obtain⟨va,vc,hv9⟩:=own_shape ho9;rw[HKM.out]at hv9;subst hv9;have HV2:=Lib.hid (HV1.out.push HSZ.out ho9 ht9 hn9);clear ho9 ht9 hn9;have HV3:=Lib.hid (HV2.out.keep ((Since.refl w9).alloc (.cells #[.slice va km vc,.int .i64 n] 121)));have HNL:=Lib.hid (HeapIs.new w9 #[.slice va km vc,.int .i64 n] 121)) | (at_builtin;refine wpList_append_one2 lncells 2 lncells_len (by decide) rfl _ _ 114 rfl 121 (.agg #[.slice none 0 0,.int .i64 0]) 32 Tryz.underlying114 (by kernel_rfl) rfl (.slice oa ko oc) outl ⟨ll++[nb],.slice va km vc,n⟩ _ 1 _ rfl rfl HV3.out.inv.out HNL.out (lncells_one _ _ _ _ _) (by rw[HKO.out];unfold maxLen;omega) (by rw[HKO.out];omega) HV3.out.old.size ?_;intro v8 w8 ho8 ht8 hn8;have HV4:=Lib.hid (HV3.out.emit ho8 ht8 hn8);clear ho8 ht8 hn8))
     go_roundw
     case rel=>exact⟨i+1,n+1,_,[],⟨#[]⟩,false,by go_num,by omega,by go_num,by omega,rfl,rfl,⟨Nat.zero_le _,by rw[List.length_append,HKO.out];simp;omega,Nat.zero_le _⟩,HV4.out,HR2.out _⟩
     case measure=>simp[intOf];omega
   ·have hq10:((s[i].toNat:Int)==10)=false:=byte_not hc (by decide)
    have hE:((i:Int)==(s.size:Int))=false:=by rw[beq_eq_false_iff_ne];omega
    by_cases h35:s[i]=35
    ·have hq35:((s[i].toNat:Int)==35)=true:=by rw[h35];rfl
     have HR1:=Lib.hid (HR.out.hash hlt hc (by rw[h35];simp))
     clear hc h35
     by_cases hne:nb=⟨#[]⟩
     ·have hq:=nb_yes hne
      have HR2:=Lib.hid (show LRel s (i+1) n outl ll ⟨#[]⟩ true from by have:=HR1.out;rw[pushB_nil ll hne]at this;exact this)
      clear hne
      go_wp2
      go_roundw
      case rel=>exact⟨i+1,n,outl,ll,⟨#[]⟩,true,by go_num,by omega,rfl,by omega,rfl,rfl,⟨Nat.zero_le _,by rw[HKO.out];omega,by rw[HKL.out];omega⟩,HV.out,HR2.out⟩
      case measure=>simp[intOf];omega
     ·have HR2:=Lib.hid (show LRel s (i+1) n outl (ll++[nb]) ⟨#[]⟩ true from by have:=HR1.out;rw[pushB_some ll hne]at this;exact this)
      have hq:=nb_not hne
      have HNE:=Lib.hid hne
      have HV1:=Lib.hid (HV.out.keep ((Since.refl wr).alloc (.cells #[.string nb] 9)))
      have HNB:=Lib.hid (HeapIs.new wr #[.string nb] 9)
      obtain⟨km,hkm⟩:∃ k,(ll++[nb]).length=k:=⟨_,rfl⟩
      have hkp:0<km∧km=kl+1:=by rw[List.length_append,HKL.out]at hkm;simp at hkm;omega
      have HKP:=Lib.hid hkp
      have hk0:=hkp.1
      have HKM:=Lib.hid hkm
      have HSZ:=Lib.hid (show nb.size≤1000000 from by omega)
      clear hne hkm hkp
      go_wp2_with (at_builtin;refine wpList_append_one2 stc 1 stc_len (by decide) rfl _ _ 89 rfl 9 (.string ⟨#[]⟩) 16 Tryz.underlying89 (by kernel_rfl) rfl (.slice la kl lc) ll nb _ 1 _ rfl rfl HV1.out.inv.l HNB.out (stc_one nb) (by rw[HKL.out];unfold maxLen;omega) (by rw[HKL.out];omega) HV1.out.old.size ?_;intro v9 w9 ho9 ht9 hn9;obtain⟨va,vc,hv9⟩:=own_shape ho9;rw[HKM.out]at hv9;subst hv9;have HV2:=Lib.hid (HV1.out.push HSZ.out ho9 ht9 hn9);clear ho9 ht9 hn9)
      go_roundw
      case rel=>exact⟨i+1,n,outl,ll++[nb],⟨#[]⟩,true,by go_num,by omega,rfl,by omega,rfl,rfl,⟨Nat.zero_le _,by rw[HKO.out];omega,by rw[HKM.out,HKP.out.2];omega⟩,HV2.out,HR2.out⟩
      case measure=>simp[intOf];omega
    ·have hq35:((s[i].toNat:Int)==35)=false:=byte_not h35 (by decide)
     cases note with
     | true =>
      have HR1:=Lib.hid (HR.out.hash hlt hc (by simp))
      clear hc h35
      by_cases hne:nb=⟨#[]⟩
      ·have hq:=nb_yes hne
       have HR2:=Lib.hid (show LRel s (i+1) n outl ll ⟨#[]⟩ true from by have:=HR1.out;rw[pushB_nil ll hne]at this;exact this)
       clear hne
       go_wp2
       go_roundw
       case rel=>exact⟨i+1,n,outl,ll,⟨#[]⟩,true,by go_num,by omega,rfl,by omega,rfl,rfl,⟨Nat.zero_le _,by rw[HKO.out];omega,by rw[HKL.out];omega⟩,HV.out,HR2.out⟩
       case measure=>simp[intOf];omega
      ·have HR2:=Lib.hid (show LRel s (i+1) n outl (ll++[nb]) ⟨#[]⟩ true from by have:=HR1.out;rw[pushB_some ll hne]at this;exact this)
       have hq:=nb_not hne
       have HNE:=Lib.hid hne
       have HV1:=Lib.hid (HV.out.keep ((Since.refl wr).alloc (.cells #[.string nb] 9)))
       have HNB:=Lib.hid (HeapIs.new wr #[.string nb] 9)
       obtain⟨km,hkm⟩:∃ k,(ll++[nb]).length=k:=⟨_,rfl⟩
       have hkp:0<km∧km=kl+1:=by rw[List.length_append,HKL.out]at hkm;simp at hkm;omega
       have HKP:=Lib.hid hkp
       have hk0:=hkp.1
       have HKM:=Lib.hid hkm
       have HSZ:=Lib.hid (show nb.size≤1000000 from by omega)
       clear hne hkm hkp
       go_wp2_with (at_builtin;refine wpList_append_one2 stc 1 stc_len (by decide) rfl _ _ 89 rfl 9 (.string ⟨#[]⟩) 16 Tryz.underlying89 (by kernel_rfl) rfl (.slice la kl lc) ll nb _ 1 _ rfl rfl HV1.out.inv.l HNB.out (stc_one nb) (by rw[HKL.out];unfold maxLen;omega) (by rw[HKL.out];omega) HV1.out.old.size ?_;intro v9 w9 ho9 ht9 hn9;obtain⟨va,vc,hv9⟩:=own_shape ho9;rw[HKM.out]at hv9;subst hv9;have HV2:=Lib.hid (HV1.out.push HSZ.out ho9 ht9 hn9);clear ho9 ht9 hn9)
       go_roundw
       case rel=>exact⟨i+1,n,outl,ll++[nb],⟨#[]⟩,true,by go_num,by omega,rfl,by omega,rfl,rfl,⟨Nat.zero_le _,by rw[HKO.out];omega,by rw[HKM.out,HKP.out.2];omega⟩,HV2.out,HR2.out⟩
       case measure=>simp[intOf];omega
     | false =>
      by_cases h32:s[i]=32
      ·have hq32:((s[i].toNat:Int)==32)=true:=by rw[h32];rfl
       have HR1:=Lib.hid (HR.out.sep hlt hc h35 (by rw[h32];rfl))
       clear hc h35 h32
       by_cases hne:nb=⟨#[]⟩
       ·have hq:=nb_yes hne
        have HR2:=Lib.hid (show LRel s (i+1) n outl ll ⟨#[]⟩ false from by have:=HR1.out;rw[pushB_nil ll hne]at this;exact this)
        clear hne
        go_wp2
        go_roundw
        case rel=>exact⟨i+1,n,outl,ll,⟨#[]⟩,false,by go_num,by omega,rfl,by omega,rfl,rfl,⟨Nat.zero_le _,by rw[HKO.out];omega,by rw[HKL.out];omega⟩,HV.out,HR2.out⟩
        case measure=>simp[intOf];omega
       ·have HR2:=Lib.hid (show LRel s (i+1) n outl (ll++[nb]) ⟨#[]⟩ false from by have:=HR1.out;rw[pushB_some ll hne]at this;exact this)
        have hq:=nb_not hne
        have HNE:=Lib.hid hne
        have HV1:=Lib.hid (HV.out.keep ((Since.refl wr).alloc (.cells #[.string nb] 9)))
        have HNB:=Lib.hid (HeapIs.new wr #[.string nb] 9)
        obtain⟨km,hkm⟩:∃ k,(ll++[nb]).length=k:=⟨_,rfl⟩
        have hkp:0<km∧km=kl+1:=by rw[List.length_append,HKL.out]at hkm;simp at hkm;omega
        have HKP:=Lib.hid hkp
        have hk0:=hkp.1
        have HKM:=Lib.hid hkm
        have HSZ:=Lib.hid (show nb.size≤1000000 from by omega)
        clear hne hkm hkp
        go_wp2_with (at_builtin;refine wpList_append_one2 stc 1 stc_len (by decide) rfl _ _ 89 rfl 9 (.string ⟨#[]⟩) 16 Tryz.underlying89 (by kernel_rfl) rfl (.slice la kl lc) ll nb _ 1 _ rfl rfl HV1.out.inv.l HNB.out (stc_one nb) (by rw[HKL.out];unfold maxLen;omega) (by rw[HKL.out];omega) HV1.out.old.size ?_;intro v9 w9 ho9 ht9 hn9;obtain⟨va,vc,hv9⟩:=own_shape ho9;rw[HKM.out]at hv9;subst hv9;have HV2:=Lib.hid (HV1.out.push HSZ.out ho9 ht9 hn9);clear ho9 ht9 hn9)
        go_roundw
        case rel=>exact⟨i+1,n,outl,ll++[nb],⟨#[]⟩,false,by go_num,by omega,rfl,by omega,rfl,rfl,⟨Nat.zero_le _,by rw[HKO.out];omega,by rw[HKM.out,HKP.out.2];omega⟩,HV2.out,HR2.out⟩
        case measure=>simp[intOf];omega
      ·have hq32:((s[i].toNat:Int)==32)=false:=byte_not h32 (by decide)
       by_cases h9:s[i]=9
       ·have hq9:((s[i].toNat:Int)==9)=true:=by rw[h9];rfl
        have HR1:=Lib.hid (HR.out.sep hlt hc h35 (by rw[h9];rfl))
        clear hc h35 h32 h9
        by_cases hne:nb=⟨#[]⟩
        ·have hq:=nb_yes hne
         have HR2:=Lib.hid (show LRel s (i+1) n outl ll ⟨#[]⟩ false from by have:=HR1.out;rw[pushB_nil ll hne]at this;exact this)
         clear hne
         go_wp2
         go_roundw
         case rel=>exact⟨i+1,n,outl,ll,⟨#[]⟩,false,by go_num,by omega,rfl,by omega,rfl,rfl,⟨Nat.zero_le _,by rw[HKO.out];omega,by rw[HKL.out];omega⟩,HV.out,HR2.out⟩
         case measure=>simp[intOf];omega
        ·have HR2:=Lib.hid (show LRel s (i+1) n outl (ll++[nb]) ⟨#[]⟩ false from by have:=HR1.out;rw[pushB_some ll hne]at this;exact this)
         have hq:=nb_not hne
         have HNE:=Lib.hid hne
         have HV1:=Lib.hid (HV.out.keep ((Since.refl wr).alloc (.cells #[.string nb] 9)))
         have HNB:=Lib.hid (HeapIs.new wr #[.string nb] 9)
         obtain⟨km,hkm⟩:∃ k,(ll++[nb]).length=k:=⟨_,rfl⟩
         have hkp:0<km∧km=kl+1:=by rw[List.length_append,HKL.out]at hkm;simp at hkm;omega
         have HKP:=Lib.hid hkp
         have hk0:=hkp.1
         have HKM:=Lib.hid hkm
         have HSZ:=Lib.hid (show nb.size≤1000000 from by omega)
         clear hne hkm hkp
         go_wp2_with (at_builtin;refine wpList_append_one2 stc 1 stc_len (by decide) rfl _ _ 89 rfl 9 (.string ⟨#[]⟩) 16 Tryz.underlying89 (by kernel_rfl) rfl (.slice la kl lc) ll nb _ 1 _ rfl rfl HV1.out.inv.l HNB.out (stc_one nb) (by rw[HKL.out];unfold maxLen;omega) (by rw[HKL.out];omega) HV1.out.old.size ?_;intro v9 w9 ho9 ht9 hn9;obtain⟨va,vc,hv9⟩:=own_shape ho9;rw[HKM.out]at hv9;subst hv9;have HV2:=Lib.hid (HV1.out.push HSZ.out ho9 ht9 hn9);clear ho9 ht9 hn9)
         go_roundw
         case rel=>exact⟨i+1,n,outl,ll++[nb],⟨#[]⟩,false,by go_num,by omega,rfl,by omega,rfl,rfl,⟨Nat.zero_le _,by rw[HKO.out];omega,by rw[HKM.out,HKP.out.2];omega⟩,HV2.out,HR2.out⟩
         case measure=>simp[intOf];omega
       ·have hq9:((s[i].toNat:Int)==9)=false:=byte_not h9 (by decide)
        have HR1:=Lib.hid (HR.out.other hlt hc h35 (by unfold isSep;simp[h32,h9]) (more_list nb s hlt))
        clear hc h35 h32 h9
        go_wp2
        go_roundw
        case rel=>exact⟨i+1,n,outl,ll,_,false,by go_num,by omega,rfl,by omega,rfl,rfl,⟨more_size nb s hlt hb.1,by rw[HKO.out];omega,by rw[HKL.out];omega⟩,HV.out,HR1.out⟩
        case measure=>simp[intOf];omega
  ·by_cases hle:i=s.size
   ·subst hle
    have HR1:=Lib.hid (fun lv=>HR.out.last lv)
    by_cases hne:nb=⟨#[]⟩
    ·have hq:=nb_yes hne
     have HP:=Lib.hid (pushB_nil ll hne)
     clear hne
     by_cases hl0:kl=0
     ·subst hl0
      have HLL:=Lib.hid (List.length_eq_zero_iff.1 HKL.out)
      have HR2:=Lib.hid (show LRel s (s.size+1) (n) outl [] ⟨#[]⟩ false from by have:=HR1.out undef;rw[HP.out,HLL.out,emitV_nil]at this;exact this)
      have HV4:=Lib.hid HV.out.fresh
      go_wp2
      go_roundw
      case rel=>exact⟨s.size+1,n,outl,[],⟨#[]⟩,false,by go_num,by omega,rfl,by omega,rfl,rfl,⟨Nat.zero_le _,by rw[HKO.out];omega,Nat.zero_le _⟩,HV4.out,HR2.out⟩
      case measure=>simp[intOf]
     ·have hk0:0<kl:=by omega
      have HLL:=Lib.hid (show ll≠[] from fun e=>hl0 (by rw[←HKL.out,e];rfl))
      have HR2:=Lib.hid (show LRel s (s.size+1) (n) (outl++[⟨ll,.slice la kl lc,n⟩]) [] ⟨#[]⟩ false from by have:=HR1.out (.slice la kl lc);rw[HP.out,emitV_some n _ HLL.out]at this;exact this)
      have HV3:=Lib.hid (HV.out.keep ((Since.refl wr).alloc (.cells #[.slice la kl lc,.int .i64 n] 121)))
      have HNL:=Lib.hid (HeapIs.new wr #[.slice la kl lc,.int .i64 n] 121)
      clear hl0
      go_wp2_with (at_builtin;refine wpList_append_one2 lncells 2 lncells_len (by decide) rfl _ _ 114 rfl 121 (.agg #[.slice none 0 0,.int .i64 0]) 32 Tryz.underlying114 (by kernel_rfl) rfl (.slice oa ko oc) outl ⟨ll,.slice la kl lc,n⟩ _ 1 _ rfl rfl HV3.out.inv.out HNL.out (lncells_one _ _ _ _ _) (by rw[HKO.out];unfold maxLen;omega) (by rw[HKO.out];omega) HV3.out.old.size ?_;intro v8 w8 ho8 ht8 hn8;have HV4:=Lib.hid (HV3.out.emit ho8 ht8 hn8);clear ho8 ht8 hn8)
      go_roundw
      case rel=>exact⟨s.size+1,n,_,[],⟨#[]⟩,false,by go_num,by omega,rfl,by omega,rfl,rfl,⟨Nat.zero_le _,by rw[List.length_append,HKO.out];simp;omega,Nat.zero_le _⟩,HV4.out,HR2.out⟩
      case measure=>simp[intOf]
    ·have HP:=Lib.hid (pushB_some ll hne)
     have hq:=nb_not hne
     have HNE:=Lib.hid hne
     have HV1:=Lib.hid (HV.out.keep ((Since.refl wr).alloc (.cells #[.string nb] 9)))
     have HNB:=Lib.hid (HeapIs.new wr #[.string nb] 9)
     obtain⟨km,hkm⟩:∃ k,(ll++[nb]).length=k:=⟨_,rfl⟩
     have hkp:0<km∧km=kl+1:=by rw[List.length_append,HKL.out]at hkm;simp at hkm;omega
     have HKP:=Lib.hid hkp
     have hk0:=hkp.1
     have HKM:=Lib.hid hkm
     have HSZ:=Lib.hid (show nb.size≤1000000 from by omega)
     clear hne hkm hkp
     have HR2:=Lib.hid (fun lv=>(show LRel s (s.size+1) (n) (outl++[⟨ll++[nb],lv,n⟩]) [] ⟨#[]⟩ false from by have:=HR1.out lv;rw[HP.out,emitV_some n _ (by simp)]at this;exact this))
     go_wp2_with (first | (at_builtin;refine wpList_append_one2 stc 1 stc_len (by decide) rfl _ _ 89 rfl 9 (.string ⟨#[]⟩) 16 Tryz.underlying89 (by kernel_rfl) rfl (.slice la kl lc) ll nb _ 1 _ rfl rfl HV1.out.inv.l HNB.out (stc_one nb) (by rw[HKL.out];unfold maxLen;omega) (by rw[HKL.out];omega) HV1.out.old.size ?_;intro v9 w9 ho9 ht9 hn9;obtain⟨va,vc,hv9⟩:=own_shape ho9;rw[HKM.out]at hv9;subst hv9;have HV2:=Lib.hid (HV1.out.push HSZ.out ho9 ht9 hn9);clear ho9 ht9 hn9;have HV3:=Lib.hid (HV2.out.keep ((Since.refl w9).alloc (.cells #[.slice va km vc,.int .i64 n] 121)));have HNL:=Lib.hid (HeapIs.new w9 #[.slice va km vc,.int .i64 n] 121)) | (at_builtin;refine wpList_append_one2 lncells 2 lncells_len (by decide) rfl _ _ 114 rfl 121 (.agg #[.slice none 0 0,.int .i64 0]) 32 Tryz.underlying114 (by kernel_rfl) rfl (.slice oa ko oc) outl ⟨ll++[nb],.slice va km vc,n⟩ _ 1 _ rfl rfl HV3.out.inv.out HNL.out (lncells_one _ _ _ _ _) (by rw[HKO.out];unfold maxLen;omega) (by rw[HKO.out];omega) HV3.out.old.size ?_;intro v8 w8 ho8 ht8 hn8;have HV4:=Lib.hid (HV3.out.emit ho8 ht8 hn8);clear ho8 ht8 hn8))
     go_roundw
     case rel=>exact⟨s.size+1,n,_,[],⟨#[]⟩,false,by go_num,by omega,rfl,by omega,rfl,rfl,⟨Nat.zero_le _,by rw[List.length_append,HKO.out];simp;omega,Nat.zero_le _⟩,HV4.out,HR2.out _⟩
     case measure=>simp[intOf]
   ·have hgt:s.size<i:=by omega
    have HQ:=Lib.hid (HR.out.done hgt)
    have HN:=Lib.hid HQ.out.2
    go_wp2
    go_ret2
    exact⟨_,_,congrArg (fun z:Int=>Ending.returned (.tuple #[.slice oa ko oc,.int .i64 z])) HN.out,HV.out.rows,HQ.out.1,HV.out.old⟩
end Go.Proofs.YtmhojfpidedjeaaGreatDoor
