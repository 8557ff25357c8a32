/- Plain: which text a function, or a table, is; and which function, or table, a text is. Plain: the library's cutting of a text, byte by byte. Plain: a text byte by byte into its lines' words, as the document goes. Plain: the steps over numbered lines; how much a parser has when so many lines are done -/
import Derived.Test.YtmhojfpidedjeaaGreatDoorTb02
import Derived.Lib.FieldsP
import Derived.Lib.SplitLaws
namespace Go.Proofs.YtmhojfpidedjeaaGreatDoor
set_option linter.unusedVariables false
abbrev Bs:=List UInt8
structure DIns where
 op:Int
 dst:Int
 two:Int
 args:List Int
 imm:Int
structure DPhi where
 dst:Int
 ins:List (Int × Int)
structure DTerm where
 kd:Int
 ar:List Int
 tg:List Int
 im:Int
structure DBlk where
 phis:List DPhi
 ins:List DIns
 term:DTerm
structure DFn where
 params:Int
 blocks:List DBlk
def dS (n:Int):Bs:=32::Lib.itoa n
def allS (l:List Int):Bs:=l.flatMap dS
def opS (op:Int):Bs:=(nameF op).data.toList
def insS (x:DIns):Bs:=
 if x.op=1 then opS x.op++(dS x.dst++dS x.imm)
 else if 2≤x.op∧x.op≤14 then opS x.op++(dS x.dst++allS x.args)
 else if x.op=15 then opS x.op++(dS x.dst++(allS x.args++dS x.imm))
 else if x.op=16 then opS x.op++(allS x.args++dS x.imm)
 else if x.op=17 then opS x.op++(dS x.dst++(dS x.imm++allS x.args))
 else if x.op=18 then opS x.op++(dS x.dst++(dS x.two++allS x.args))
 else [63]
def termNames:List ByteArray:=[⟨#[106,117,109,112]⟩,⟨#[98,114,97,110,99,104]⟩,⟨#[115,119,105,116,99,104]⟩,⟨#[114,101,116]⟩,⟨#[116,114,97,112]⟩]
def termB (k:Int):ByteArray:=if k<1∨5<k then ⟨#[63]⟩ else termNames.getD (k-1).toNat ByteArray.empty
def termS (t:DTerm):Bs:=
 if t.kd<1∨5<t.kd then [63]
 else if t.kd=5 then (termB t.kd).data.toList++dS t.im
 else (termB t.kd).data.toList++(allS t.ar++allS t.tg)
def pairS (x:Int × Int):Bs:=dS x.1++58::Lib.itoa x.2
def phiS (p:DPhi):Bs:=[112,104,105]++(dS p.dst++p.ins.flatMap pairS)
def bodyS (x:DBlk):Bs:=x.phis.flatMap (fun p=>phiS p++[10])++(x.ins.flatMap (fun i=>insS i++[10])++(termS x.term++[10]))
def blkS (b:Nat) (x:DBlk):Bs:=[98,108,111,99,107]++(dS b++10::bodyS x)
def blkAt (l:List DBlk) (b:Nat):Bs:=match l[b]? with | some x=>blkS b x | none=>[]
def blksS (l:List DBlk) (n:Nat):Bs:=(List.range n).flatMap (blkAt l)
def funcS (f:DFn):Bs:=[102,117,110,99]++(dS f.params++10::blksS f.blocks f.blocks.length)
structure DTile where
 pat:Int
 cost:Int
def spl (c:UInt8):Bs→List Bs
 | []=>[[]]
 | x::r=>if x=c then []::spl c r else match spl c r with | []=>[[x]] | h::t=>(x::h)::t
def ahead (c:UInt8) (l:Bs):Bs:=l.takeWhile (fun x=>x != c)
def isSep (x:UInt8):Bool:=x==32||x==9
def fldGo:Bs→Bs→List Bs
 | cur,[]=>if cur=[] then [] else [cur]
 | cur,x::r=>if isSep x then (if cur=[] then fldGo [] r else cur::fldGo [] r) else fldGo (cur++[x]) r
def wordsOf (l:Bs):List ByteArray:=(fldGo [] (ahead 35 l)).map fun x=>⟨x.toArray⟩
def linesOf (s:Bs):List (List ByteArray):=(spl 10 s).map wordsOf
def numW (w:ByteArray):Int:=(wparse w.data.toList).getD 0
def isNum (w:ByteArray):Bool:=(wparse w.data.toList).isSome
def numsW (l:List ByteArray):List Int:=l.map numW
def areNums (l:List ByteArray):Bool:=l.all isNum
def kindF (w:ByteArray):Int:=1+Lib.idxOfS termNames w
def wFunc:ByteArray:=⟨#[102,117,110,99]⟩
def wBlock:ByteArray:=⟨#[98,108,111,99,107]⟩
def wPhi:ByteArray:=⟨#[112,104,105]⟩
structure PSt where
 params:Int
 blocks:List DBlk
 pl:Int
def onLast (s:PSt) (g:DBlk→DBlk):List DBlk:=s.blocks.modify (s.blocks.length-1) g
def colons (w:ByteArray):Nat:=w.data.toList.count 58
def front (w:ByteArray):ByteArray:=⟨(ahead 58 w.data.toList).toArray⟩
def behind (w:ByteArray):ByteArray:=⟨(w.data.toList.drop ((ahead 58 w.data.toList).length+1)).toArray⟩
def pairW (w:ByteArray):Int × Int:=(numW (front w),numW (behind w))
def isPair (w:ByteArray):Bool:=isNum (front w)&&isNum (behind w)
def phiSt (s:PSt) (l:List ByteArray):Except Int PSt:=
 match l with
 | []=>.error 70
 | d::r =>
  if r.all (fun w=>colons w==1) then
   (if isNum d&&r.all isPair then .ok ⟨s.params,onLast s (fun b=>⟨b.phis++[⟨numW d,r.map pairW⟩],b.ins,b.term⟩),s.pl⟩ else .error 71)
  else .error 70
def least (op:Int):Nat:=if op=1 then 2 else if op=17 then 2 else if op=18 then 4 else 3
def most (op:Int):Nat:=if op=1 then 2 else if op=17 then 6 else if op=18 then 4 else 3
def insOf (op:Int) (n:List Int):DIns:=
 if op=1 then ⟨op,n.getD 0 0,0,[],n.getD 1 0⟩
 else if op=15 then ⟨op,n.getD 0 0,0,(n.drop 1).take 1,n.getD 2 0⟩
 else if op=16 then ⟨op,0,0,n.take 2,n.getD 2 0⟩
 else if op=17 then ⟨op,n.getD 0 0,0,n.drop 2,n.getD 1 0⟩
 else if op=18 then ⟨op,n.getD 0 0,n.getD 1 0,n.drop 2,0⟩
 else ⟨op,n.getD 0 0,0,n.drop 1,0⟩
def insSt (s:PSt) (op:Int) (l:List ByteArray):Except Int PSt:=
 if least op≤l.length∧l.length≤most op then
  (if areNums l then .ok ⟨s.params,onLast s (fun b=>⟨b.phis,b.ins++[insOf op (numsW l)],b.term⟩),3⟩ else .error 71)
 else .error 70
def tleast (k:Int):Nat:=if k=1 then 1 else if k=2 then 3 else if k=3 then 2 else if k=4 then 0 else 1
def tmost (k:Int) (n:Nat):Nat:=if k=1 then 1 else if k=2 then 3 else if k=3 then n else 1
def termOf (k:Int) (n:List Int):DTerm:=
 if k=1 then ⟨k,[],n,0⟩ else if k=4 then ⟨k,n,[],0⟩ else if k=5 then ⟨k,[],[],n.getD 0 0⟩ else ⟨k,n.take 1,n.drop 1,0⟩
def termSt (s:PSt) (k:Int) (l:List ByteArray):Except Int PSt:=
 if tleast k≤l.length∧l.length≤tmost k l.length then
  (if areNums l then .ok ⟨s.params,onLast s (fun b=>⟨b.phis,b.ins,termOf k (numsW l)⟩),1⟩ else .error 71)
 else .error 70
def zeroBlk:DBlk:=⟨[],[],⟨0,[],[],0⟩⟩
def stepSt (s:PSt) (l:List ByteArray):Except Int PSt:=
 match l with
 | []=>.ok s
 | w::r =>
  if w=wFunc then
   (if s.pl=0∧r.length=1 then (if areNums r then .ok ⟨(numsW r).getD 0 0,s.blocks,1⟩ else .error 71) else .error 70)
  else if w=wBlock then
   (if s.pl=1∧r.length=1 then (if areNums r then (if (numsW r).getD 0 0=s.blocks.length then .ok ⟨s.params,s.blocks++[zeroBlk],2⟩ else .error 70) else .error 71) else .error 70)
  else if w=wPhi then (if s.pl=2 then phiSt s r else .error 70)
  else if 0<numberF w then (if 2≤s.pl then insSt s (numberF w) r else .error 70)
  else if 0<kindF w then (if 2≤s.pl then termSt s (kindF w) r else .error 70)
  else .error 72
def goSt {σ:Type} (step:σ→List ByteArray→Except Int σ):Nat→σ→List (List ByteArray)→Except (Int × Int) σ
 | _,s,[]=>.ok s
 | i,s,l::r=>if l=[] then goSt step (i+1) s r else match step s l with
  | .error e=>.error (i+1,e)
  | .ok t=>goSt step (i+1) t r
structure PRes where
 f:DFn
 line:Int
 e:Int
def parseS (s:Bs):PRes:=
 match goSt stepSt 0 ⟨0,[],0⟩ (linesOf s) with
 | .error x=>⟨⟨0,[]⟩,x.1,x.2⟩
 | .ok t=>if t.pl=1∧t.blocks≠[] then ⟨⟨t.params,t.blocks⟩,0,0⟩ else ⟨⟨0,[]⟩,((linesOf s).length:Int),70⟩
example:(parseS [102,117,110,99,32,50,10,98,108,111,99,107,32,48,10,97,100,100,32,50,32,48,32,49,10,114,101,116,32,50,10]).e=0:=by decide +kernel
open Go.Lib
theorem dec_low (n b0 b1 b2 b3:Nat) (h:b0<128):decodeN n b0 b1 b2 b3=(b0,1):=by unfold decodeN;rw[if_pos h]
theorem dec_high (n b0 b1 b2 b3:Nat) (h:¬ b0<128):128≤(decodeN n b0 b1 b2 b3).1∧(decodeN n b0 b1 b2 b3).2≤4∧(1<(decodeN n b0 b1 b2 b3).2→128≤b1)∧(2<(decodeN n b0 b1 b2 b3).2→128≤b2)∧(3<(decodeN n b0 b1 b2 b3).2→128≤b3):=by
 unfold decodeN
 rw[if_neg h]
 repeat' split
 all_goals (simp only;omega)
def isSepR (r:Nat):Bool:=r==32||r==9
theorem sep_low (b:UInt8):isSepR b.toNat=isSep b:=by
 unfold isSepR isSep
 congr 1
 ·rw[Bool.eq_iff_iff];simp[←UInt8.toNat_inj]
 ·rw[Bool.eq_iff_iff];simp[←UInt8.toNat_inj]
theorem sep_high (b:UInt8) (h:128≤b.toNat):isSep b=false:=by
 rw[←sep_low];unfold isSepR;simp;omega
theorem fldGo_run:∀ (a cur r:Bs),(∀ x∈a,isSep x=false)→fldGo cur (a++r)=fldGo (cur++a) r
 | [],cur,r,_=>by simp
 | x::a,cur,r,h=>by
  rw[List.cons_append,fldGo,if_neg (by rw[h x List.mem_cons_self];simp),fldGo_run a _ _ fun y hy=>h y (List.mem_cons_of_mem _ hy)]
  simp
theorem drop_at (l:Bs) (p:Nat) (h:p<l.length):l.drop p=l.getD p 0::l.drop (p+1):=by
 rw[List.drop_eq_getElem_cons h];simp[List.getD,h]
theorem rune_step (s:ByteArray) (pos:Nat) (h:pos<s.size):(isSepR (Utf8.decode s pos).1=true∧isSep (s.data.toList.getD pos 0)=true∧(Utf8.decode s pos).2=1) ∨
  (isSepR (Utf8.decode s pos).1=false∧∀ x∈(s.data.toList.drop pos).take (Utf8.decode s pos).2,isSep x=false):=by
 have hs:s.data.toList.length=s.size:=(size_eq s).symm
 generalize hL:s.data.toList=L at *
 by_cases hb:(L.getD pos 0).toNat<128
 ·have hd:Utf8.decode s pos=((L.getD pos 0).toNat,1):=by rw[decode_N,hL,dec_low _ _ _ _ _ hb]
  rw[hd,sep_low]
  cases hq:isSep (L.getD pos 0)
  ·refine .inr ⟨rfl,fun x hx=>?_⟩
   rw[drop_at L pos (by omega)]at hx
   simp at hx
   rw[hx];simpa using hq
  ·exact .inl ⟨rfl,rfl,rfl⟩
 ·have hd:=decode_N s pos
  rw[hL]at hd
  obtain⟨h1,h2,h3,h4,h5⟩:=dec_high (L.length-pos) (L.getD pos 0).toNat (L.getD (pos+1) 0).toNat (L.getD (pos+2) 0).toNat (L.getD (pos+3) 0).toNat hb
  rw[←hd]at h1 h2 h3 h4 h5
  refine .inr ⟨by unfold isSepR;simp;omega,fun x hx=>sep_high x ?_⟩
  obtain⟨j,hj,rfl⟩:=List.getElem_of_mem hx
  rw[List.getElem_take,List.getElem_drop]
  have hj2:j<(Utf8.decode s pos).2:=by rw[List.length_take]at hj;omega
  have hj3:pos+j<L.length:=by rw[List.length_take,List.length_drop]at hj;omega
  have e:L[pos+j]=L.getD (pos+j) 0:=by simp[List.getD,hj3]
  rw[e]
  rcases (show j=0∨j=1∨j=2∨j=3 by omega) with rfl|rfl|rfl|rfl
  ·rw[Nat.add_zero];omega
  ·exact h3 (by omega)
  ·exact h4 (by omega)
  ·exact h5 (by omega)
theorem fldGo_nil (cur:Bs):fldGo cur []=if cur=[] then [] else [cur]:=by rw[fldGo]
theorem spans_fld (s:ByteArray):∀ (f pos:Nat) (st:Option Nat) (acc:List (Nat × Nat)),s.size≤pos+f→pos≤s.size→(∀ a,st=some a→a<pos) →
  acc.map (fun p=>pieceU s.data.toList p.1 p.2)++fldGo (openPiece s.data.toList st pos) (s.data.toList.drop pos)=(closeSpans s (spansFromP isSepR s f pos st acc)).map (fun p=>pieceU s.data.toList p.1 p.2)
 | f,pos,st,acc,h,hp,hst=>by
  by_cases hlt:pos<s.size
  ·obtain⟨f,rfl⟩:∃ g,f=g+1:=⟨f-1,by omega⟩
   have hw:=width_pos s pos
   have hwn:pos+(Utf8.decode s pos).2≤s.size:=by
    have:=decodeN_le_n' (s.size-pos) (s.get! pos).toNat (s.get! (pos+1)).toNat (s.get! (pos+2)).toNat (s.get! (pos+3)).toNat (by omega)
    rw[←decode_at]at this
    omega
   have hL:pos<s.data.toList.length:=by rw[←size_eq];exact hlt
   simp only[spansFromP,if_pos hlt]
   rcases rune_step s pos hlt with ⟨h1,h2,h3⟩|⟨h1,h2⟩
   ·rw[h1,h3]
    simp only[if_true]
    rw[drop_at _ _ hL,fldGo,if_pos h2]
    cases st with
    | none =>
     have ih:=spans_fld s f (pos+1) none acc (by omega) (by omega) (fun a h=>by cases h)
     simpa [openPiece]using ih
    | some a =>
     have hpn:=pieceU_ne s.data.toList a pos (hst a rfl) (by omega)
     have ih:=spans_fld s f (pos+1) none (acc++[(a,pos)]) (by omega) (by omega) (fun a h=>by cases h)
     simpa [openPiece,hpn]using ih
   ·rw[h1]
    simp only[Bool.false_eq_true,if_false]
    have e0:s.data.toList.drop pos=(s.data.toList.drop pos).take (Utf8.decode s pos).2++s.data.toList.drop (pos+(Utf8.decode s pos).2):=by
     rw[←List.drop_drop,List.take_append_drop]
    rw[e0,fldGo_run _ _ _ h2]
    cases st with
    | none =>
     have ih:=spans_fld s f (pos+(Utf8.decode s pos).2) (some pos) acc (by omega) hwn (fun a h=>by cases h;omega)
     have e:([]:List UInt8)++(s.data.toList.drop pos).take (Utf8.decode s pos).2=pieceU s.data.toList pos (pos+(Utf8.decode s pos).2):=by
      unfold pieceU
      rw[List.nil_append,Nat.add_sub_cancel_left]
     simp only[openPiece]at ih ⊢
     rw[e]
     exact ih
    | some a =>
     have ih:=spans_fld s f (pos+(Utf8.decode s pos).2) (some a) acc (by omega) hwn (fun b h=>by cases h;have:=hst a rfl;omega)
     simp only[openPiece]at ih ⊢
     rw[pieceU_grow _ _ _ _ (Nat.le_of_lt (hst a rfl))]
     exact ih
  ·obtain rfl:pos=s.size:=by omega
   have hd:s.data.toList.drop s.size=[]:=List.drop_eq_nil_of_le (by rw[←size_eq];exact Nat.le_refl _)
   rw[hd,fldGo_nil,spansFromP_end _ s _ _ _ _ hlt]
   cases st with
   | none=>simp[closeSpans,openPiece]
   | some a =>
    have:=pieceU_ne s.data.toList a s.size (hst a rfl) (by rw[←size_eq];exact Nat.le_refl _)
    simp[closeSpans,openPiece,this]
theorem goFields_fld (s:ByteArray):goFieldsP isSepR s=(fldGo [] s.data.toList).map fun x=>(⟨x.toArray⟩:ByteArray):=by
 have h:=spans_fld s s.size 0 none [] (by omega) (Nat.zero_le _) (fun a h=>by cases h)
 simp only[List.map_nil,List.nil_append,openPiece,List.drop_zero]at h
 rw[h,List.map_map]
 unfold goFieldsP spansOfP
 refine List.map_congr_left fun p _=>?_
 apply ByteArray.ext
 apply Array.toList_inj.mp
 simp[pieceU]
theorem index_one_eq (c:UInt8) (r:Bs):index (c::r) [c]=0:=by rw[index];simp[List.isPrefixOf]
theorem index_one_ne (x c:UInt8) (r:Bs) (h:x≠c):index (x::r) [c]=if index r [c]==-1 then -1 else index r [c]+1:=by
 have hp:([c]:List UInt8).isPrefixOf (x::r)=false:=by simp[List.isPrefixOf,Ne.symm h]
 rw[index,hp];simp
theorem index_miss {x c:UInt8} {r : Bs} (h:x≠c) (hm:index r [c]=-1):index (x::r) [c]=-1:=by rw[index_one_ne x c r h,hm];rfl
theorem index_hit {x c:UInt8} {r : Bs} (h:x≠c) {j : Nat} (hm:index r [c]=j):index (x::r) [c]=((j+1:Nat):Int):=by
 rw[index_one_ne x c r h,hm,if_neg (by simp)];omega
theorem index_nat {c : UInt8} {r : Bs} (h:index r [c]≠-1):∃ j:Nat,index r [c]=j:=by
 have:=index_ge r [c]
 exact⟨(index r [c]).toNat,by omega⟩
theorem split_spl (c:UInt8):∀ s:Bs,split s [c]=spl c s
 | []=>by unfold split;rw[count_miss (by simp[index])];rfl
 | x::r=>by
  have ih:=split_spl c r
  by_cases hx:x=c
  ·subst hx
   unfold split
   rw[count_cons_eq,Nat.add_comm,splitK,index_one_eq,if_neg (by decide),spl,if_pos rfl,←ih]
   rfl
  ·unfold split at ih ⊢
   rw[count_cons_ne x c r hx,spl,if_neg hx,←ih]
   cases hn:count r [c]with
   | zero=>rfl
   | succ k =>
    obtain⟨j,hj⟩:=index_nat (c:=c) (r:=r) fun e=>by rw[count_miss e]at hn;omega
    rw[splitK,splitK,index_hit hx hj,hj,if_neg (by simp;omega),if_neg (by simp)]
    rfl
theorem cut_ahead (c:UInt8):∀ s:Bs,(cut s [c]).1=ahead c s∧(cut s [c]).2.1=s.drop ((ahead c s).length+1)
 | []=>by simp[cut,index,ahead]
 | x::r=>by
  obtain⟨h1,h2⟩:=cut_ahead c r
  by_cases hx:x=c
  ·subst hx
   unfold cut
   rw[index_one_eq,if_pos (by decide)]
   simp[ahead]
  ·have ha:ahead c (x::r)=x::ahead c r:=by unfold ahead;rw[List.takeWhile_cons,if_pos (by simpa using hx)]
   rw[ha]
   unfold cut at h1 h2 ⊢
   by_cases hm:index r [c]=-1
   ·rw[hm,if_neg (by decide)]at h1 h2
    rw[index_miss hx hm,if_neg (by decide)]
    exact⟨congrArg (x::·) h1,h2⟩
   ·obtain⟨j,hj⟩:=index_nat hm
    rw[hj,if_pos (by omega)]at h1 h2
    rw[index_hit hx hj,if_pos (by omega)]
    rw[Int.toNat_natCast]at h1 h2 ⊢
    refine⟨congrArg (x::·) h1,?_⟩
    show (x::r).drop (j+1+1)=_
    exact h2
def emitL (n:Int) (l:List ByteArray):List (List ByteArray × Int):=if l=[] then [] else [(l,n)]
def numd:Int→List (List ByteArray)→List (List ByteArray × Int)
 | _,[]=>[]
 | n,x::r=>emitL n x++numd (n+1) r
def runL {σ:Type} (step:σ→List ByteArray→Except Int σ):σ→List (List ByteArray × Int)→Except (Int × Int) σ
 | s,[]=>.ok s
 | s,x::r=>match step s x.1 with
  | .error e=>.error (x.2,e)
  | .ok t=>runL step t r
theorem goSt_runL {σ:Type} (step:σ→List ByteArray→Except Int σ):∀ (L:List (List ByteArray)) (i:Nat) (s:σ),goSt step i s L=runL step s (numd ((i:Int)+1) L)
 | [],i,s=>rfl
 | l::r,i,s=>by
  rw[goSt,numd]
  have e:(((i+1:Nat):Int)+1)=(i:Int)+1+1:=by omega
  by_cases h:l=[]
  ·rw[if_pos h,goSt_runL step r (i+1) s,emitL,if_pos h,List.nil_append,e]
  ·rw[if_neg h,emitL,if_neg h,List.singleton_append,runL]
   cases hs:step s l with
   | error n=>rfl
   | ok t =>
    simp only[]
    rw[goSt_runL step r (i+1) t,e]
theorem fldGo_len:∀ (l cur:Bs),(fldGo cur l).length≤l.length+(if cur=[] then 0 else 1)
 | [],cur=>by unfold fldGo;by_cases h:cur=[]<;>simp[h]
 | x::r,cur=>by
  unfold fldGo
  by_cases hx:isSep x=true
  ·rw[if_pos hx]
   have h0:=fldGo_len r []
   rw[if_pos rfl]at h0
   by_cases h:cur=[]
   ·rw[if_pos h,if_pos h];simp only[List.length_cons];omega
   ·rw[if_neg h,if_neg h];simp only[List.length_cons];omega
  ·rw[if_neg hx]
   have h0:=fldGo_len r (cur++[x])
   rw[if_neg (by simp)]at h0
   simp only[List.length_cons]
   omega
theorem wordsOf_len (l:Bs):(wordsOf l).length≤l.length:=by
 unfold wordsOf
 rw[List.length_map]
 have h:=fldGo_len (ahead 35 l) []
 rw[if_pos rfl]at h
 have h2:(ahead 35 l).length≤l.length:=by unfold ahead;exact (List.takeWhile_sublist _).length_le
 omega
theorem spl_mem_len (c:UInt8):∀ (s:Bs),∀ x∈spl c s,x.length≤s.length
 | [],x,hx=>by simp[spl]at hx;simp[hx]
 | y::r,x,hx=>by
  rw[spl]at hx
  by_cases hy:y=c
  ·rw[if_pos hy]at hx
   rcases List.mem_cons.1 hx with h|h
   ·subst h;simp
   ·have:=spl_mem_len c r x h;simp only[List.length_cons];omega
  ·rw[if_neg hy]at hx
   have ih:=spl_mem_len c r
   cases hs:spl c r with
   | nil=>rw[hs]at hx;simp at hx;simp[hx]
   | cons h t =>
    rw[hs]at hx ih
    rcases List.mem_cons.1 hx with h1|h1
    ·have:=ih h (by simp);subst h1;simp only[List.length_cons];omega
    ·have:=ih x (by simp[h1]);simp only[List.length_cons];omega
theorem spl_len (c:UInt8):∀ (s:Bs),(spl c s).length≤s.length+1
 | []=>by simp[spl]
 | y::r=>by
  rw[spl]
  have ih:=spl_len c r
  by_cases hy:y=c
  ·rw[if_pos hy];simp only[List.length_cons];omega
  ·rw[if_neg hy]
   cases hs:spl c r with
   | nil=>simp
   | cons h t=>rw[hs]at ih;simp only[List.length_cons]at ih ⊢;omega
theorem linesOf_len (s:Bs):(linesOf s).length≤s.length+1:=by unfold linesOf;rw[List.length_map];exact spl_len 10 s
theorem lines_words (s:Bs):∀ l∈linesOf s,l.length≤s.length:=fun l hl=>by
 obtain⟨x,hx,rfl⟩:=List.mem_map.1 hl
 have:=wordsOf_len x
 have:=spl_mem_len 10 s x hx
 omega
theorem numd_mem:∀ (L:List (List ByteArray)) (n:Int),∀ x∈numd n L,x.1∈L∧x.1≠[]
 | [],_,x,hx=>by cases hx
 | l::r,n,x,hx=>by
  rw[numd]at hx
  rcases List.mem_append.1 hx with h|h
  ·unfold emitL at h
   by_cases hl:l=[]
   ·rw[if_pos hl]at h;cases h
   ·rw[if_neg hl]at h
    rw[List.mem_singleton.1 h]
    exact⟨by simp,hl⟩
  ·have:=numd_mem r (n+1) x h
   exact⟨List.mem_cons_of_mem _ this.1,this.2⟩
theorem numd_len:∀ (L:List (List ByteArray)) (n:Int),(numd n L).length≤L.length
 | [],_=>Nat.le_refl _
 | l::r,n=>by
  rw[numd,List.length_append,List.length_cons]
  have:=numd_len r (n+1)
  have:(emitL n l).length≤1:=by unfold emitL;by_cases h:l=[]<;>simp[h]
  omega
structure FewSt (n:Nat) (s:PSt):Prop where
 bl:s.blocks.length≤n
 each:∀ b∈s.blocks,b.phis.length≤n∧b.ins.length≤n
 pl:0≤s.pl∧s.pl≤3∧(2≤s.pl→s.blocks≠[])
theorem mem_modify {α:Type} {g : α→α}:∀ (l:List α) (i:Nat) (x:α),x∈l.modify i g→x∈l∨∃ y∈l,x=g y
 | [],i,x,h=>by simp at h
 | y::r,0,x,h=>by
  simp only[List.modify_zero_cons,List.mem_cons]at h
  rcases h with h|h
  ·exact .inr ⟨y,by simp,h⟩
  ·exact .inl (by simp[h])
 | y::r,i+1,x,h=>by
  simp only[List.modify_succ_cons,List.mem_cons]at h
  rcases h with h|h
  ·exact .inl (by simp[h])
  ·rcases mem_modify r i x h with h|⟨z,hz,e⟩
   ·exact .inl (by simp[h])
   ·exact .inr ⟨z,by simp[hz],e⟩
theorem FewSt.more {n : Nat} {s : PSt} (h:FewSt n s):FewSt (n+1) s:=⟨by have:=h.bl;omega,fun b hb=>by have:=h.each b hb;omega,h.pl⟩
theorem FewSt.last {n : Nat} {s : PSt} (h:FewSt n s) (g:DBlk→DBlk) (hg:∀ b,(g b).phis.length≤b.phis.length+1∧(g b).ins.length≤b.ins.length+1) (k:Int) (hk:0≤k∧k≤3∧(2≤k→s.blocks≠[])) (p:Int):FewSt (n+1) ⟨p,onLast s g,k⟩:=by
 refine⟨?_,fun b hb=>?_,hk.1,hk.2.1,fun h2=>?_⟩
 ·show (onLast s g).length≤n+1
  unfold onLast;rw[List.length_modify];have:=h.bl;omega
 ·rcases mem_modify _ _ _ hb with h1|⟨y,hy,rfl⟩
  ·have:=h.each b h1;omega
  ·have:=h.each y hy
   have:=hg y
   omega
 ·show onLast s g≠[]
  have h3:=hk.2.2 h2
  unfold onLast
  intro e
  apply h3
  rw[←List.length_eq_zero_iff]at e ⊢
  rwa [List.length_modify]at e
theorem FewSt.step {n : Nat} {s t:PSt} {l : List ByteArray} (h:FewSt n s) (hs:stepSt s l=.ok t):FewSt (n+1) t:=by
 unfold stepSt at hs
 split at hs
 ·cases hs;exact h.more
 ·rename_i w r
  split at hs
  ·split at hs
   ·split at hs
    ·cases hs;exact⟨by have:=h.bl;show s.blocks.length≤n+1;omega,fun b hb=>(by have:=h.each b hb;omega),(show (0:Int)≤1 from by decide),(show (1:Int)≤3 from by decide),fun h=>absurd (show (2:Int)≤1 from h) (by decide)⟩
    ·cases hs
   ·cases hs
  ·split at hs
   ·split at hs
    ·split at hs
     ·split at hs
      ·cases hs
       refine⟨by have:=h.bl;show (s.blocks++[zeroBlk]).length≤n+1;simp;omega,fun b hb=>?_,(show (0:Int)≤2 from by decide),(show (2:Int)≤3 from by decide),fun _=>by simp⟩
       rcases List.mem_append.1 hb with h1|h1
       ·have:=h.each b h1;omega
       ·rw[List.mem_singleton.1 h1];simp[zeroBlk]
      ·cases hs
     ·cases hs
    ·cases hs
   ·split at hs
    ·split at hs
     ·rename_i hpl
      unfold phiSt at hs
      split at hs
      ·cases hs
      ·split at hs
       ·split at hs
        ·cases hs
         exact h.last _ (fun b=>by simp) _ h.pl _
        ·cases hs
       ·cases hs
     ·cases hs
    ·split at hs
     ·split at hs
      ·rename_i hpl
       unfold insSt at hs
       split at hs
       ·split at hs
        ·cases hs
         exact h.last _ (fun b=>by simp) _ ⟨by decide,by decide,fun _=>h.pl.2.2 hpl⟩ _
        ·cases hs
       ·cases hs
      ·cases hs
     ·split at hs
      ·split at hs
       ·rename_i hpl
        unfold termSt at hs
        split at hs
        ·split at hs
         ·cases hs
          exact h.last _ (fun b=>by simp) _ ⟨by decide,by decide,fun h=>absurd h (by decide)⟩ _
         ·cases hs
        ·cases hs
       ·cases hs
      ·cases hs
theorem FewSt.start:FewSt 0 ⟨0,[],0⟩:=⟨Nat.le_refl _,fun b hb=>(by cases hb),(show (0:Int)≤0 from by decide),(show (0:Int)≤3 from by decide),fun h=>absurd (show (2:Int)≤0 from h) (by decide)⟩
theorem spl_nonil (c:UInt8):∀ s,spl c s≠[]
 | []=>by simp[spl]
 | x::r=>by
  rw[spl]
  by_cases h:x=c
  ·rw[if_pos h];simp
  ·rw[if_neg h]
   cases hs:spl c r with
   | nil=>simp
   | cons a t=>simp
theorem spl_cat (c:UInt8):∀ (a t:Bs),spl c (a++c::t)=spl c a++spl c t
 | [],t=>by
  show spl c (c::t)=[[]]++spl c t
  simp[spl]
 | x::r,t=>by
  rw[List.cons_append,spl,spl_cat c r t,spl]
  by_cases h:x=c
  ·rw[if_pos h,if_pos h];rfl
  ·rw[if_neg h,if_neg h]
   cases hs:spl c r with
   | nil=>exact absurd hs (spl_nonil c r)
   | cons y z=>rfl
theorem spl_count (c:UInt8):∀ s,(spl c s).length=s.count c+1
 | []=>rfl
 | x::r=>by
  rw[spl]
  have ih:=spl_count c r
  by_cases h:x=c
  ·rw[if_pos h,List.length_cons,ih];subst h;simp
  ·rw[if_neg h,List.count_cons_of_ne h]
   cases hs:spl c r with
   | nil=>exact absurd hs (spl_nonil c r)
   | cons y z=>rw[hs]at ih;exact ih
theorem linesOf_at (a t:Bs):linesOf (a++10::t)=linesOf a++linesOf t:=by
 unfold linesOf;rw[spl_cat,List.map_append]
theorem linesOf_count (s:Bs):(linesOf s).length=s.count 10+1:=by unfold linesOf;rw[List.length_map,spl_count]
theorem goSt_app {σ:Type} (step:σ→List ByteArray→Except Int σ):∀ (A B:List (List ByteArray)) (i:Nat) (s:σ),goSt step i s (A++B)=match goSt step i s A with | .error e=>.error e | .ok t=>goSt step (i+A.length) t B
 | [],B,i,s=>rfl
 | l::r,B,i,s=>by
  rw[List.cons_append,goSt,goSt]
  by_cases h:l=[]
  ·rw[if_pos h,if_pos h,goSt_app step r B (i+1) s,List.length_cons,Nat.add_right_comm,Nat.add_assoc]
  ·rw[if_neg h,if_neg h]
   cases step s l with
   | error e=>rfl
   | ok t =>
    show goSt step (i+1) t (r++B)=_
    rw[goSt_app step r B (i+1) t,List.length_cons,Nat.add_right_comm,Nat.add_assoc]
theorem goSt_line {σ:Type} (step:σ→List ByteArray→Except Int σ):∀ (A:List (List ByteArray)) (i:Nat) (s:σ) (x:Int × Int),goSt step i s A=.error x→(i:Int)<x.1∧x.1≤i+A.length
 | [],i,s,x,h=>by cases h
 | l::r,i,s,x,h=>by
  rw[goSt]at h
  rw[List.length_cons]
  by_cases hl:l=[]
  ·rw[if_pos hl]at h
   have:=goSt_line step r (i+1) s x h
   omega
  ·rw[if_neg hl]at h
   cases hs:step s l with
   | error e =>
    rw[hs]at h
    obtain rfl:=Except.error.inj h
    dsimp only;omega
   | ok t =>
    rw[hs]at h
    have:=goSt_line step r (i+1) t x h
    omega
theorem goSt_err {σ:Type} (step:σ→List ByteArray→Except Int σ) (hst:∀ s l e,step s l=.error e→e=70∨e=71∨e=72):∀ (A:List (List ByteArray)) (i:Nat) (s:σ) (x:Int × Int),goSt step i s A=.error x→x.2=70∨x.2=71∨x.2=72
 | [],i,s,x,h=>by cases h
 | l::r,i,s,x,h=>by
  rw[goSt]at h
  by_cases hl:l=[]
  ·rw[if_pos hl]at h
   exact goSt_err step hst r (i+1) s x h
  ·rw[if_neg hl]at h
   cases hs:step s l with
   | error e =>
    rw[hs]at h
    obtain rfl:=Except.error.inj h
    exact hst _ _ _ hs
   | ok t =>
    rw[hs]at h
    exact goSt_err step hst r (i+1) t x h
theorem stepSt_err (s:PSt) (l:List ByteArray) (e:Int) (h:stepSt s l=.error e):e=70∨e=71∨e=72:=by
 cases l with
 | nil=>cases h
 | cons w r =>
  unfold stepSt at h
  dsimp only at h
  have hp:∀ l,phiSt s l=.error e→e=70∨e=71∨e=72:=fun l h=>by
   cases l with
   | nil=>cases h;exact .inl rfl
   | cons d r =>
    unfold phiSt at h
    dsimp only at h
    split at h
    ·split at h
     ·cases h
     ·cases h;exact .inr (.inl rfl)
    ·cases h;exact .inl rfl
  have hi:∀ op l,insSt s op l=.error e→e=70∨e=71∨e=72:=fun op l h=>by
   unfold insSt at h
   split at h
   ·split at h
    ·cases h
    ·cases h;exact .inr (.inl rfl)
   ·cases h;exact .inl rfl
  have ht:∀ op l,termSt s op l=.error e→e=70∨e=71∨e=72:=fun op l h=>by
   unfold termSt at h
   split at h
   ·split at h
    ·cases h
    ·cases h;exact .inr (.inl rfl)
   ·cases h;exact .inl rfl
  repeat' split at h
  all_goals first | exact hp _ h | exact hi _ _ h | exact ht _ _ h | (cases h;done) | (cases h;first | exact .inl rfl | exact .inr (.inl rfl) | exact .inr (.inr rfl))
def wNothing:ByteArray:=⟨#[110,111,116,104,105,110,103]⟩
def nothingS:Bs:=[110,111,116,104,105,110,103,10]
theorem nothing_lines (b:Bs):linesOf (nothingS++b)=[wNothing]::linesOf b:=by
 have h:nothingS++b=[110,111,116,104,105,110,103]++10::b:=rfl
 rw[h,linesOf_at]
 have h2:linesOf [110,111,116,104,105,110,103]=[[wNothing]]:=by decide +kernel
 rw[h2];rfl
theorem step_nothing (s:PSt):stepSt s [wNothing]=.error 72:=by
 unfold stepSt
 dsimp only
 rw[if_neg (by decide),if_neg (by decide),if_neg (by decide),if_neg (by decide +kernel),if_neg (by decide +kernel)]
theorem first_law (a b:Bs) :
  ((parseS (a++[10])).e≠0∧(parseS (a++[10])).line<((a++[10]).count 10+1:Nat)∧(parseS (a++[10]++(nothingS++b))).e=(parseS (a++[10])).e∧(parseS (a++[10]++(nothingS++b))).line=(parseS (a++[10])).line) ∨
  (((parseS (a++[10])).e=0∨¬ (parseS (a++[10])).line<((a++[10]).count 10+1:Nat))∧(parseS (a++[10]++(nothingS++b))).e=72∧(parseS (a++[10]++(nothingS++b))).line=((a++[10]).count 10+1:Nat)):=by
 have h1:linesOf (a++[10])=linesOf a++[[]]:=by rw[linesOf_at];rfl
 have h2:linesOf (a++[10]++(nothingS++b))=linesOf a++[wNothing]::linesOf b:=by
  rw[List.append_assoc,List.singleton_append,linesOf_at,nothing_lines]
 have h3:(a++[10]).count 10=(linesOf a).length:=by rw[linesOf_count,List.count_append];rfl
 rw[h3]
 unfold parseS
 rw[h1,h2,goSt_app,goSt_app]
 cases hg:goSt stepSt 0 ⟨0,[],0⟩ (linesOf a) with
 | error x =>
  left
  have g1:=goSt_line _ _ _ _ _ hg
  have g2:=goSt_err _ stepSt_err _ _ _ _ hg
  refine⟨?_,?_,rfl,rfl⟩
  ·dsimp only;omega
  ·dsimp only;omega
 | ok t =>
  right
  have e1:goSt stepSt (0+(linesOf a).length) t ([wNothing]::linesOf b)=.error ((0+(linesOf a).length:Nat)+1,72):=by
   rw[goSt,if_neg (by simp),step_nothing]
  have e2:goSt stepSt (0+(linesOf a).length) t [[]]=.ok t:=by rw[goSt,if_pos rfl];rfl
  dsimp only
  rw[e1,e2]
  dsimp only
  refine⟨?_,rfl,by omega⟩
  split
  ·exact .inl rfl
  ·right;dsimp only;rw[List.length_append];simp only[List.length_cons,List.length_nil];omega
end Go.Proofs.YtmhojfpidedjeaaGreatDoor
