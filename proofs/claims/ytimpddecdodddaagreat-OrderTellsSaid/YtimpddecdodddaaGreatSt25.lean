import Derived.Test.YtimpddecdodddaaGreatSt08
import Derived.Test.YtimpddecdodddaaGreatSt09
import Derived.Test.YtimpddecdodddaaGreatSt24
namespace Go.Proofs.YtimpddecdodddaaGreat
open Go.Proofs.Tryz Go.RowKit Go.Lib
theorem qv {P:Prop} (h:P:=by
 generalize hc:cnt bh bh.length g=c at *;have HC:=hid hc;clear hc;go_enter func74,ntmps74
 go_wp2
 go_ret
 exact⟨by rw[HC.out];rfl,But.refl _ _,HM.out,fun _ h=>h⟩):P:=h
theorem jd {P:Prop} (h:P:=by rw[Array.mem_toList_iff,Array.mem_iff_getElem?];exact⟨j,by rw[Array.getElem?_modify,if_pos rfl,hj];rfl⟩):P:=h
theorem j7 {P:Prop} (h:P:=by
 rintro e w2 ⟨rfl,ha⟩;go_wp2
 exact⟨_,rfl,rfl,ha⟩):P:=h
theorem kC {P:Prop} (h:P:=by
 go_wp2
 exact⟨_,rfl,rfl,XC.refl _ _ _⟩):P:=h
def Memo (f:Nat→Int) (w:World) (mb:Nat):Prop:=
 ∃ es clock,w.heap[mb]? = some (.map es clock)∧∀ e∈es.toList,∃ g:Nat,e.key=.int .i64 g∧e.val=.int .i64 (f g)
def HasKey (w:World) (mb:Nat) (g:Nat):Prop:=∃ es clock,w.heap[mb]? = some (.map es clock)∧∃ e∈es.toList,e.key=.int .i64 g
structure But (mb:Nat) (w w':World):Prop where
 os:w'.os=w.os
 tape:w'.tape=w.tape
 output:w'.output=w.output
 size:w'.heap.size=w.heap.size
 block:∀ k,k≠mb→w'.heap[k]? = w.heap[k]?
theorem But.refl (mb:Nat) (w:World):But mb w w:=⟨rfl,rfl,rfl,rfl,fun _ _=>rfl⟩
theorem But.trans {mb:Nat} {a b c:World} (h:But mb a b) (k:But mb b c):But mb a c:=⟨k.os.trans h.os,k.tape.trans h.tape,k.output.trans h.output,k.size.trans h.size,fun i hi=>(k.block i hi).trans (h.block i hi)⟩
theorem But.drewN {mb:Nat} {a b:World} (h:But mb a b) (n:Nat):But mb a (b.drewN n):=⟨h.os,h.tape,h.output,h.size,h.block⟩
theorem But.cell {mb:Nat} {a b:World} (h:But mb a b) {p : Addr} (hp:p.block≠mb):b.cell? p=a.cell? p:=World.cell?_of_block (h.block p.block hp)
theorem But.nums {mb:Nat} {a b:World} (h:But mb a b) {k : IntKind} {v : Value} {l : List Int} (hv:Zy k a v l) (ha:∀ q,v.ownBlock=some q→q≠mb):Zy k b v l:=by
 rcases hv with hv|⟨q,off,cap,h1,h2,h3,h4,h5⟩
 ·exact .inl hv
 ·subst h1;have hq:=ha q rfl;exact .inr ⟨q,off,cap,rfl,h2,h3,by rw[h.size];exact h4,fun j n hj=>by rw[h.cell (p:=⟨q,off+j,none⟩) hq];exact h5 j n hj⟩
section
variable {P : Program} {t K E:TypeId} {f : Nat→Int} {w : World} {mb:Nat}
theorem J1 (ht:P.underlying t=some (.map K E)) (hK:P.underlying K=some (.int .i64)) (hz:∀ w:World,(zeroValue E).run P w=.ok (.int .i64 0) w) (h:Memo f w mb) (g:Nat) :
  (Instr.lookup t (.map (some mb)) (.int .i64 g) true).run P w=.ok (.tuple #[.int .i64 (f g),.bool true]) w ∨
  ((Instr.lookup t (.map (some mb)) (.int .i64 g) true).run P w=.ok (.tuple #[.int .i64 0,.bool false]) w∧¬ HasKey w mb g):=by
 obtain⟨es,clock,hb,hd⟩:=h;have ha:MapKept.IsKey (.int .i64) (.int .i64 (g:Int)):=rfl;have hh:∀ x∈es.toList,MapKept.IsKey (.int .i64) x.key:=fun x hx=>by obtain⟨g',hc,_⟩:=hd x hx;rw[hc];rfl
 rcases MapKept.findNow_spec ha es.toList 0 hh with ⟨h1,h2⟩|⟨j,e,h1,h2,h3⟩
 ·right
  refine⟨by simp[Instr.lookup,run_underlying ht,MapKept.run_getObj_map hb,MapKept.run_checkKey hK ha,MapKept.run_findKey hK h1,hz,Result.andThen],?_⟩;rintro⟨es',c',hf,e,he,hi⟩;rw[hb]at hf
  cases hf
  exact h2 e he hi
 ·left
  obtain⟨g',hc,hg⟩:=hd e (List.mem_of_getElem? h2);have:g'=g:=by rw[hc]at h3;injection h3 with _ h3;omega
  subst this;simp[Instr.lookup,run_underlying ht,MapKept.run_getObj_map hb,MapKept.run_checkKey hK ha,MapKept.run_findKey hK h1,hg,Result.andThen]
theorem Zbd (ht:P.underlying t=some (.map K E)) (hK:P.underlying K=some (.int .i64)) (h:Memo f w mb) (g:Nat) :
  ∃ w',(Instr.mapUpdate t (.map (some mb)) (.int .i64 g) (.int .i64 (f g))).run P w=.ok () w'∧Memo f w' mb∧But mb w w'∧HasKey w' mb g∧∀ k,HasKey w mb k→HasKey w' mb k:=by
 obtain⟨es,clock,hb,hf⟩:=h;have hm:mb<w.heap.size:=(Array.getElem?_eq_some_iff.1 hb).1;have hc:MapKept.IsKey (.int .i64) (.int .i64 (g:Int)):=rfl;have hn:∀ x∈es.toList,MapKept.IsKey (.int .i64) x.key:=fun x hx=>by obtain⟨g',ho,_⟩:=hf x hx;rw[ho];rfl
 have ha:∀ o,({ w with heap:=w.heap.setIfInBounds mb o }:World).heap[mb]? = some o:=fun o=>by simp[hm]
 have hh:∀ o,But mb w { w with heap:=w.heap.setIfInBounds mb o }:=fun o=>⟨rfl,rfl,rfl,by simp,fun k hk=>by simp[Ne.symm hk]⟩
 rcases MapKept.findNow_spec hc es.toList 0 hn with ⟨h1,h2⟩|⟨j,e0,h1,h2,h3⟩
 ·refine⟨_,by simp[Instr.mapUpdate,run_underlying ht,MapKept.run_getObj_map hb,MapKept.run_checkKey hK hc,MapKept.run_findKey hK h1,MapKept.run_setObj_map _ hb,Result.andThen];rfl,?_,hh _,?_,?_⟩
  ·refine⟨_,_,ha _,fun x hx=>?_⟩;simp only[Array.toList_push,List.mem_append,List.mem_singleton]at hx;rcases hx with hx|rfl
   ·exact hf x hx
   ·exact⟨g,rfl,rfl⟩
  ·exact⟨_,_,ha _,{ key:=.int .i64 g,val:=.int .i64 (f g),born:=clock },by simp,rfl⟩
  ·rintro k ⟨es',c',hd,e,he,hg⟩;rw[hb]at hd
   cases hd
   exact⟨_,_,ha _,e,by simp only[Array.toList_push,List.mem_append];exact .inl he,hg⟩
 ·have hj:es[j]? = some e0:=by simpa using h2
  rw[Nat.zero_add]at h1;refine⟨_,by simp[Instr.mapUpdate,run_underlying ht,MapKept.run_getObj_map hb,MapKept.run_checkKey hK hc,MapKept.run_findKey hK h1,hj,h3,MapKept.run_keyThatStays hc,MapKept.run_setObj_map _ hb,Result.andThen];rfl,?_,hh _,?_,?_⟩
  ·refine⟨_,_,ha _,fun x hx=>?_⟩;rcases MapFrom.mem_modify hx with hx|⟨e',hp,rfl⟩
   ·exact hf x hx
   ·exact⟨g,rfl,rfl⟩
  ·refine⟨_,_,ha _,{ e0 with key:=.int .i64 g,val:=.int .i64 (f g) },?_,rfl⟩;exact jd
  ·rintro k ⟨es',c',hd,e,he,hg⟩;rw[hb]at hd
   cases hd
   rw[Array.mem_toList_iff,Array.mem_iff_getElem?]at he;obtain⟨i,hi⟩:=he;refine⟨_,_,ha _,?_⟩;by_cases hl:j=i
   ·subst hl;have:e0=e:=by rw[hj]at hi;simpa using hi
    subst this;refine⟨{ e0 with key:=.int .i64 g,val:=.int .i64 (f g) },?_,by rw[←hg,h3]⟩;exact jd
   ·refine⟨e,?_,hg⟩;rw[Array.mem_toList_iff,Array.mem_iff_getElem?];exact⟨i,by rw[Array.getElem?_modify,if_neg hl];exact hi⟩
end
set_option linter.unusedVariables false
set_option maxHeartbeats 4000000
set_option maxRecDepth 100000
theorem Zak (w:World):(zeroValue 3).run prog w=.ok (.int .i64 0) w:=by kernel_rfl
structure Ready (bh:List Int) (mb bk bl bb bc:Nat) (w:World):Prop where
 known:w.cell? ⟨bk,0,none⟩=some (.map (some mb))
 rows:∃ a cap,w.cell? ⟨bl,0,none⟩=some (.slice a bh.length cap)
 behind:∃ bv,w.cell? ⟨bb,0,none⟩=some bv∧Zy .i64 w bv bh∧∀ q,bv.ownBlock=some q→q≠mb
 count:w.cell? ⟨bc,0,none⟩=some (.func (.func 74) #[] #[.pointer (some ⟨bk,0,none⟩),.pointer (some ⟨bl,0,none⟩),.pointer (some ⟨bb,0,none⟩),.pointer (some ⟨bc,0,none⟩)])
 ne:bk≠mb∧bl≠mb∧bb≠mb∧bc≠mb
theorem Ready.but {bh:List Int} {mb bk bl bb bc:Nat} {w w':World} (h:Ready bh mb bk bl bb bc w) (s:But mb w w'):Ready bh mb bk bl bb bc w':=by
 obtain⟨h1,⟨a,cap,h2⟩,⟨bv,h3,h4,h5⟩,h6,n1,n2,n3,n4⟩:=h;exact⟨by rw[s.cell (p:=⟨bk,0,none⟩) n1];exact h1,⟨a,cap,by rw[s.cell (p:=⟨bl,0,none⟩) n2];exact h2⟩,⟨bv,by rw[s.cell (p:=⟨bb,0,none⟩) n3];exact h3,s.nums h4 h5,h5⟩,by rw[s.cell (p:=⟨bc,0,none⟩) n4];exact h6,n1,n2,n3,n4⟩
def XC (bh:List Int) (mb:Nat) (x y:World):Prop:=But mb x y∧(Memo (cnt bh bh.length) x mb→Memo (cnt bh bh.length) y mb)∧∀ k,HasKey x mb k→HasKey y mb k
theorem XC.refl (bh:List Int) (mb:Nat) (x:World):XC bh mb x x:=⟨But.refl _ _,id,fun _ h=>h⟩
theorem XC.trans {bh:List Int} {mb:Nat} (x y z:World) (h:XC bh mb x y) (k:XC bh mb y z):XC bh mb x z:=⟨h.1.trans k.1,fun m=>k.2.1 (h.2.1 m),fun q hq=>k.2.2 q (h.2.2 q hq)⟩
theorem XC.drew (bh:List Int) (mb:Nat) (x:World):XC bh mb x x.drew:=⟨⟨rfl,rfl,rfl,rfl,fun _ _=>rfl⟩,fun h=>h,fun _ h=>h⟩
def atV:List Value→Nat→Value→Prop
 | [],_,_=>True
 | x::_,0,v=>v=x
 | _::r,i+1,v=>atV r i v
def Ze2 (l:List Value) (i:Nat) (v:Value) (_:World):Prop:=atV l i v
def JK (bh:List Int) (mb g:Nat) (w:World) (e:Ending) (w':World):Prop:=
 e=.returned (.int .i64 (cnt bh bh.length g))∧But mb w w'∧Memo (cnt bh bh.length) w' mb∧∀ k,HasKey w mb k→HasKey w' mb k
theorem Zde (bh:List Int) (hn:bh.length≤12) (mb bk bl bb bc:Nat):∀ (f g:Nat) (w:World),Xq bh.length g≤f→g<2 ^ bh.length→Ready bh mb bk bl bb bc w→Memo (cnt bh bh.length) w mb→HasKey w mb (2 ^ bh.length-1) →
  Calls prog 74 #[.int .i64 g,.pointer (some ⟨bk,0,none⟩),.pointer (some ⟨bl,0,none⟩),.pointer (some ⟨bb,0,none⟩),.pointer (some ⟨bc,0,none⟩)] w (JK bh mb g w):=by
 intro f;induction f with
 | zero =>
  intro g w hf hg hr hm hk;have hx:=(VO bh.length g hg).1 zaK;have hU:=hr.known;rcases J1 (P:=prog) underlying129 underlying3 Zak hm g with hl|⟨_,hh⟩
  ·clear hx;have HM:=hid hm;clear hr hk hm;exact qv
  ·subst hx;exact absurd hk hh
 | succ f ih =>
  intro g w hf hg hr hm hk;have hU:=hr.known;rcases J1 (P:=prog) underlying129 underlying3 Zak hm g with hl|⟨hl,hh⟩
  ·have HM:=hid hm;clear hr hk hm ih;exact qv
  ·have hC:g≠2 ^ bh.length-1:=fun e=>by subst e;exact hh hk
   have hO:=Zfb bh bh.length g zaK hg hC;have hQ:=hid hO;clear hO;have HR:=hid hr;have HM:=hid hm;have HK:=hid hk;have HN:=hid hh;have IH:=hid ih;have HG:=hid hg;have HF:=hid hf;have Hh:=hid hC;obtain⟨a,cap,h3⟩:=hr.rows;clear hr hm hk hh ih hC hg hf;go_enter func74,ntmps74
   go_wp2
   go_loopw [7,20] (fun s i wr=>∃ k:Nat,k≤bh.length∧i=.int .i64 k∧s=.int .i64 (XI (term bh bh.length g) k)∧But mb w wr∧Memo (cnt bh bh.length) wr mb∧(∀ k,HasKey w mb k→HasKey wr mb k)) (fun _ i _=>bh.length-(intOf i).toNat)
   case atStart=>exact⟨0,Nat.zero_le _,rfl,rfl,But.refl _ _,HM.out,fun _ h=>h⟩
   case round =>
    obtain⟨k,Ha,rfl,rfl,ha,hJ,hw⟩:=hrel;have hp:=hid hJ;have hd:=hid hw;clear hJ hw;clear hl;by_cases hi:k<bh.length
    ·obtain⟨bv,He,ht,hR⟩:=(HR.out.but ha).behind;obtain⟨a2,cap2,rfl⟩:=Zc ht;obtain⟨_,hc⟩:=Zr ht;obtain⟨b2,off2,rfl,Hf,hz⟩:=hc (by intro e;rw[e]at hi;simp at hi);obtain⟨y,hy⟩:∃ y,bh[k]? = some y:=⟨_,List.getElem?_eq_getElem hi⟩
     have Hb:=hz k y hy;have ho:=(HR.out.but ha).count;clear hz hc hR ht;have hI:XI (term bh bh.length g) (k+1)=XI (term bh bh.length g) k+term bh bh.length g k:=rfl;have hP:=VU (t:=term bh bh.length g) (B:=23298085122481) k (fun i _=>ZbC bh bh.length g i hn);have hN:bh.getD k 0=y:=by simp[List.getD_eq_getElem?_getD,hy]
     have hF:=hid hI;have Hg:0≤XI (term bh bh.length g) k:=hP.1;have h5:XI (term bh bh.length g) k≤300000000000000:=by
      have:(k:Int)*23298085122481≤12*23298085122481:=Int.mul_le_mul_of_nonneg_right zaK zaK;omega
     clear hI hP hy;have hu:W8 g k=(bits .and .i64 ((g:Int) / 2 ^ k) 1==0):=rfl;have he:readyI bh g k=(bits .andNot .i64 y (g:Int)==0):=by unfold readyI;rw[hN]
     clear hN;have hv:term bh bh.length g k=if W8 g k&&readyI bh g k then cnt bh bh.length (g ||| 2 ^ k) else 0:=rfl;have HT:=hid hv;clear hv;generalize hT:XI (term bh bh.length g) k=s0 at *;clear hT
     cases h1:(bits .and .i64 ((g:Int) / 2 ^ k) 1==0) with
     | false =>
      rw[h1]at hu;have HU:=hid hu;clear hu he;go_wp2
      go_roundw
      case rel=>exact⟨k+1,zaK,by go_num,by rw[hF.out,HT.out,HU.out];simp,ha,hp.out,hd.out⟩
      case measure=>simp[intOf];omega
     | true =>
      cases h2:(bits .andNot .i64 y (g:Int)==0) with
      | false =>
       rw[h1]at hu;rw[h2]at he;have HU:=hid hu;have hE:=hid he;clear hu he;go_wp2
       go_roundw
       case rel=>exact⟨k+1,zaK,by go_num,by rw[hF.out,HT.out,HU.out,hE.out];simp,ha,hp.out,hd.out⟩
       case measure=>simp[intOf];omega
      | true =>
       rw[h1]at hu;rw[h2]at he;have h9:=Zfr g k (Nat.lt_of_lt_of_le HG.out (Nat.pow_le_pow_right zaJ zaK)) zaK;have hD:g.testBit k=false:=by
        have:=QA g k (Nat.lt_of_lt_of_le HG.out (Nat.pow_le_pow_right zaJ zaK));rw[hu]at this;simpa using this.symm
       have Hc:=Q8 bh bh.length (g ||| 2 ^ k) hn;have hb:∀ w1,XC bh mb wr w1→Calls prog 74 #[.int .i64 ((g ||| 2 ^ k:Nat):Int),.pointer (some ⟨bk,0,none⟩),.pointer (some ⟨bl,0,none⟩),.pointer (some ⟨bb,0,none⟩),.pointer (some ⟨bc,0,none⟩)] w1 (JK bh mb (g ||| 2 ^ k) w1):=fun w1 hs =>
        IH.out (g ||| 2 ^ k) w1 (by have:=Zam bh.length g k hi hD;have:=HF.out;omega) (Nat.or_lt_two_pow HG.out (Nat.pow_lt_pow_right zaJ hi)) ((HR.out.but ha).but hs.1) (hs.2.1 hp.out) (hs.2.2 _ (hd.out _ HK.out))
       have hA:=hid hb;have HU:=hid hu;have hE:=hid he;clear hu he hb hD;unfold JK at hA;generalize hc:cnt bh bh.length (g ||| 2 ^ k)=c at *;have HC:=hid hc;clear hc;have h7:(0:Int)≤2 ^ k:=Int.le_of_lt (Int.pow_pos zaJ);have h6:(2:Int) ^ k≤8192:=by
        have:(2:Nat) ^ k≤2 ^ 13:=Nat.pow_le_pow_right zaJ zaK;have e:(2:Int) ^ k=((2 ^ k:Nat):Int):=by push_cast;rfl
        omega
       go_wp2
       refine Zaa (XC bh mb) XC.trans (XC.drew _ _ _) rfl zaC zaC
        (Ze2 [.int .i64 s0,.func (.func 74) #[] #[.pointer (some ⟨bk,0,none⟩),.pointer (some ⟨bl,0,none⟩),.pointer (some ⟨bb,0,none⟩),.pointer (some ⟨bc,0,none⟩)],.int .i64 g,.int .i64 k,.int .i64 (2 ^ k),.int .i64 ((g ||| 2 ^ k:Nat):Int),.int .i64 c,.int .i64 (s0+c),.int .i64 (s0+c)])
        (fun _ _ _ _ h _=>h) ⟨?_,?_,?_,?_,?_,?_,?_,?_,?_,trivial⟩ ?_
       rotate_right
       all_goals
        intro vs w1 hs hk;have ho:=((HR.out.but ha).but hs.1).count;simp only[putAll,Act.put,Zp,Zi,Ze2,atV,List.setIfInBounds_toArray,List.set_cons_zero,List.set_cons_succ,Nat.reduceAdd,List.length_cons,List.length_nil]at hk ⊢;try simp only[hk]
       ·have HS:=hid hs;clear ho;go_wp2
        go_roundw
        case rel=>exact⟨k+1,zaK,by go_num,by rw[hF.out,HT.out,HU.out,hE.out];rfl,ha.trans HS.out.1,HS.out.2.1 hp.out,fun q hq=>HS.out.2.2 q (hd.out q hq)⟩
        case measure=>simp[intOf];omega
       ·intro hB;have h8:vs 8=.int .i64 s0:=hB 8 zaC;rw[h8];clear hB;exact kC
       iterate 5
        ·intro _;exact kC
       ·intro _;have hb:=hA.out w1 hs;have h0:=hid hb;clear hb;go_wp2_with fail
        refine h0.out.mono ?_;rintro e w9 ⟨rfl,hV,hK,hM⟩;have hW:=hid (fun (_:Memo (cnt bh bh.length) w1 mb)=>hK)
        have hY:=hid hM;clear hK hM;go_wp2
        exact⟨_,rfl,rfl,hV,hW.out,hY.out⟩
       iterate 2
        ·intro _;exact kC
    ·obtain rfl:k=bh.length:=zaK
     obtain⟨w2,hS,hL,hH,hG,hj⟩:=Zbd (P:=prog) underlying129 underlying3 hp.out g;rw[hQ.out]at hS;have h4:=(HR.out.but ha).known;have hX:=hid hL;have hZ:=hid hj;clear hL hj hG;go_wp2
     go_ret
     exact⟨by rw[hQ.out];rfl,ha.trans hH,hX.out,fun q hq=>hZ.out q (hd.out q hq)⟩
structure JJ (w:World) (b o:Nat) (m:Mach) (av:Value):Prop where
 c0:w.cell? ⟨b,o,none⟩=some (.int .i64 m.op)
 c1:w.cell? ⟨b,o+1,none⟩=some (.int .i64 m.d)
 c2:w.cell? ⟨b,o+2,none⟩=some (.int .i64 m.e)
 c3:w.cell? ⟨b,o+3,none⟩=some (.int .i64 m.a)
 c4:w.cell? ⟨b,o+4,none⟩=some (.int .i64 m.b)
 c5:w.cell? ⟨b,o+5,none⟩=some (.int .i64 m.c)
 c6:w.cell? ⟨b,o+6,none⟩=some (.int .i32 m.imm)
 c7:w.cell? ⟨b,o+7,none⟩=some av
 args:Zd w av m.args
 fine:Xt m
theorem JJ.keep {w w':World} {b o:Nat} {m : Mach} {av:Value} (h:JJ w b o m av) (hb:b<w.heap.size) (s:Since w w'):JJ w' b o m av:=by
 obtain⟨h0,h1,h2,h3,h4,h5,h6,h7,h8,h9⟩:=h;exact⟨by rw[s.cell hb];exact h0,by rw[s.cell hb];exact h1,by rw[s.cell hb];exact h2,by rw[s.cell hb];exact h3,by rw[s.cell hb];exact h4,by rw[s.cell hb];exact h5,by rw[s.cell hb];exact h6,by rw[s.cell hb];exact h7,h8.keep s,h9⟩
def JR (w:World) (v:Value) (ms:List (Mach × Value)):Prop:=
 (∃ a,v=.slice a 0 0∧ms=[])∨∃ b off cap,v=.slice (some ⟨b,off,none⟩) ms.length cap∧b<w.heap.size∧∀ (j:Nat) (x:Mach × Value),ms[j]? = some x→JJ w b (off+j*8) x.1 x.2
theorem JR.keep {w w':World} {v : Value} {ms:List (Mach × Value)} (h:JR w v ms) (s:Since w w'):JR w' v ms:=by
 rcases h with h|⟨b,off,cap,h1,h2,h3⟩
 ·exact .inl h
 ·exact .inr ⟨b,off,cap,h1,Nat.lt_of_lt_of_le h2 s.size,fun j x hj=>(h3 j x hj).keep h2 s⟩
def msk (d:Nat→Nat→Bool) (i:Nat):Nat→Int
 | 0=>0
 | j+1=>if d j i then bits .or .i64 (msk d i j) (2 ^ j) else msk d i j
def st (d:Nat→Nat→Bool) (n i j:Nat):List Int:=(List.range n).map fun t=>if t<i then msk d t t else if t=i then msk d i j else 0
def bhs (d:Nat→Nat→Bool) (n:Nat):List Int:=(List.range n).map fun t=>msk d t t
theorem Zcw (d:Nat→Nat→Bool) (n i j:Nat):(st d n i j).length=n:=by simp[st]
theorem Zfq (d:Nat→Nat→Bool) (n i j:Nat) (h:i<n):(st d n i j)[i]? = some (msk d i j):=by simp[st,h]
theorem Zdu (d:Nat→Nat→Bool) (n:Nat):st d n 0 0=List.replicate n 0:=by
 apply List.ext_getElem?;intro t
 simp only[st,List.getElem?_map,List.getElem?_replicate];by_cases h:t<n<;>simp[h,msk]
theorem ZeL (d:Nat→Nat→Bool) (n i:Nat):st d n i i=st d n (i+1) 0:=by
 apply List.ext_getElem?;intro t
 simp only[st,List.getElem?_map];by_cases h:t<n
 ·simp only[List.getElem?_range h,Option.map_some,Option.some.injEq];by_cases h1:t<i
  ·simp[h1,show t<i+1 from by omega]
  ·by_cases h2:t=i
   ·subst h2;simp
   ·simp[h1,h2,show ¬ t<i+1 from by omega,msk]
 ·simp[h]
theorem ZeM (d:Nat→Nat→Bool) (n:Nat):st d n n 0=bhs d n:=by
 apply List.ext_getElem?;intro t
 simp only[st,bhs,List.getElem?_map];by_cases h:t<n<;>simp[h]
theorem Zfp (d:Nat→Nat→Bool) (n i j:Nat) (h:d j i=false):st d n i (j+1)=st d n i j:=by
 simp[st,msk,h]
theorem ZeK (d:Nat→Nat→Bool) (n i j:Nat) (h:d j i=true):st d n i (j+1)=(st d n i j).set i (bits .or .i64 (msk d i j) (2 ^ j)):=by
 apply List.ext_getElem?;intro t
 simp only[st,List.getElem?_map,List.getElem?_set,List.length_map,List.length_range];by_cases h1:t<n
 ·simp only[List.getElem?_range h1,Option.map_some];by_cases h2:i=t
  ·subst h2;simp[h1,msk,h]
  ·simp[h2,Ne.symm h2]
 ·by_cases h2:i=t
  ·subst h2;simp[h1]
  ·simp[h2,h1]
def RowAt (w:World) (b:Nat) (R:List Int):Prop:=w.heap[b]? = some (.cells (R.map (Value.int .i64)).toArray 3 (0,0))
theorem RowAt.cell {w : World} {b : Nat} {R : List Int} (h:RowAt w b R) {i : Nat} {x : Int} (hx:R[i]? = some x):w.cell? ⟨b,i,none⟩=some (.int .i64 x):=by
 simp[World.cell?,show w.heap[b]? = _ from h,hx]
theorem RowAt.nums {w : World} {b : Nat} {R : List Int} (h:RowAt w b R) (hm:R.length≤maxLen):Zy .i64 w (.slice (some ⟨b,0,none⟩) R.length R.length) R:=
 Wc R 3 R.length (Nat.le_refl _) hm h fun j n hj=>by simp[hj]
theorem RowAt.set {w : World} {b : Nat} {R : List Int} (h:RowAt w b R) (i:Nat) (x:Int):RowAt (w.setCell ⟨b,i,none⟩ (.int .i64 x)) b (R.set i x):=by
 unfold RowAt at h ⊢;simp[World.setCell,Array.getElem?_modify,h,List.map_set]
theorem ZcA {w0 w:World} (h:Since w0 w) {a : Addr} (ha:w0.heap.size≤a.block) (v:Value):Since w0 (w.setCell a v):=Below.setCell h ha v
structure InLoop (w:World) (v:Value) (d:Nat→Nat→Bool) (n b bl bb i j:Nat) (wr:World):Prop where
 since:Since w wr
 box:wr.cell? ⟨bl,0,none⟩=some v
 beh:wr.cell? ⟨bb,0,none⟩=some (.slice (some ⟨b,0,none⟩) n n)
 row:RowAt wr b (st d n i j)
 lt:w.heap.size≤b∧bl<wr.heap.size∧bb<wr.heap.size∧bl≠b∧bb≠b
theorem InLoop.keep {w : World} {v : Value} {d : Nat→Nat→Bool} {n b bl bb i j:Nat} {wr w2:World} (h:InLoop w v d n b bl bb i j wr) (s:Since wr w2):InLoop w v d n b bl bb i j w2:=by
 obtain⟨h1,h2,h3,h4,l1,l2,l3,l4,l5⟩:=h;have hb:b<wr.heap.size:=(Array.getElem?_eq_some_iff.1 h4).1;exact⟨h1.trans s,by rw[s.cell (p:=⟨bl,0,none⟩) l2];exact h2,by rw[s.cell (p:=⟨bb,0,none⟩) l3];exact h3,(Below.block s b hb).trans h4,l1,Nat.lt_of_lt_of_le l2 s.size,Nat.lt_of_lt_of_le l3 s.size,l4,l5⟩
theorem InLoop.store {w : World} {v : Value} {d : Nat→Nat→Bool} {n b bl bb i j:Nat} {wr:World} (h:InLoop w v d n b bl bb i j wr) (hd:d j i=true) :
  InLoop w v d n b bl bb i (j+1) (wr.setCell ⟨b,i,none⟩ (.int .i64 (bits .or .i64 (msk d i j) (2 ^ j)))):=by
 obtain⟨h1,h2,h3,h4,l1,l2,l3,l4,l5⟩:=h;refine⟨ZcA h1 l1 _,?_,?_,?_,l1,?_,?_,l4,l5⟩
 ·exact (World.cell?_of_block (Below.heap_setCell _ _ _ _ l4)).trans h2
 ·exact (World.cell?_of_block (Below.heap_setCell _ _ _ _ l5)).trans h3
 ·rw[ZeK d n i j hd];exact h4.set _ _
 ·simpa [World.setCell]using l2
 ·simpa [World.setCell]using l3
theorem InLoop.no {w : World} {v : Value} {d : Nat→Nat→Bool} {n b bl bb i j:Nat} {wr:World} (h:InLoop w v d n b bl bb i j wr) (hd:d j i=false):InLoop w v d n b bl bb i (j+1) wr:=by
 obtain⟨h1,h2,h3,h4,l⟩:=h;exact⟨h1,h2,h3,by rw[Zfp d n i j hd];exact h4,l⟩
theorem InLoop.row_done {w : World} {v : Value} {d : Nat→Nat→Bool} {n b bl bb i:Nat} {wr:World} (h:InLoop w v d n b bl bb i i wr):InLoop w v d n b bl bb (i+1) 0 wr:=by
 obtain⟨h1,h2,h3,h4,l⟩:=h;exact⟨h1,h2,h3,by rw[←ZeL];exact h4,l⟩
def Wz (ms:List (Mach × Value)) (j i:Nat):Bool:=match ms[j]?,ms[i]? with
 | some x,some y=>Zw x.1 y.1
 | _,_=>false
theorem Zb2 {w w1:World} {v : Value} {n : Nat} (d:Nat→Nat→Bool) (t:TypeId)
  (he:w1.ownsRow w.heap.size 3 1 (.slice (some ⟨(w.alloc (.cells #[v] t)).heap.size,0,none⟩) n n) n (madeCells (Value.int .i64 0).cells (n*1)).toList)
  (hc:(w.alloc (.cells #[v] t)).grownBy w1 none) :
  Since w w1∧RowAt w1 (w.heap.size+1) (st d n 0 0)∧w.heap.size+1<w1.heap.size∧w1.cell? ⟨w.heap.size,0,none⟩=some v∧∀ o,(w1.alloc o).cell? ⟨w.heap.size,0,none⟩=some v:=by
 rw[show (w.alloc (.cells #[v] t)).heap.size=w.heap.size+1 from by simp]at he;have hs:Since w w1:=Below.grown ((Since.refl w).alloc (.cells #[v] t)) hc zaL (fun _ h=>by cases h);have hd:RowAt w1 (w.heap.size+1) (st d n 0 0):=by
  obtain⟨_,⟨hv,_⟩|⟨g,cap,cur,hv,_,hg,_,_,hh,ha⟩⟩:=he
  ·cases hv
  ·injection hv with hv hj hf
   injection hv with hv
   injection hv with hv
   subst hv;subst hf;unfold RowAt;rw[hg,Zdu];have h1:cur.toList=List.replicate n (Value.int .i64 0):=by
    rw[List.take_of_length_le (by simp[hh])]at ha;rw[ha];show (madeCells #[Value.int .i64 0] (n*1)).toList=_
    rw[toList_madeCells_one,Nat.mul_one]
   have h2:cur=(List.replicate n (Value.int .i64 0)).toArray:=by rw[←h1]
   rw[h2];simp
 have hi:w.heap.size+1<w1.heap.size:=(Array.getElem?_eq_some_iff.1 hd).1;have hb:w1.heap[w.heap.size]? = some (.cells #[v] t):=by
  rw[hc.block w.heap.size zaL zaL];exact ZG w _
 refine⟨hs,hd,hi,by simp[World.cell?,hb],fun o=>?_⟩;have:(w1.alloc o).heap[w.heap.size]? = some (.cells #[v] t):=by
  rw[←hb];exact Below.block ((Since.refl w1).alloc o) _ zaK
 simp[World.cell?,this]
theorem Since.but {w0 a b:World} {mb:Nat} (h:Since w0 a) (hm:w0.heap.size≤mb) (k:But mb a b):Since w0 b:=
 ⟨k.os.trans h.os,k.tape.trans h.tape,k.output.trans h.output,by rw[k.size];exact h.size,fun i hi=>(k.block i zaK).trans (h.block i hi)⟩
def XQ (wr:World) (M:Int) (bl bb:Nat):World:=
 ((wr.alloc (.map #[{ key:=.int .i64 M,val:=.int .i64 1,born:=0 }] 1)).alloc (.cells #[.map (some wr.heap.size)] 129)).alloc
  (.cells #[.func (.func 74) #[] #[.pointer (some ⟨wr.heap.size+1,0,none⟩),.pointer (some ⟨bl,0,none⟩),.pointer (some ⟨bb,0,none⟩),.pointer (some ⟨wr.heap.size+1+1,0,none⟩)]] 113)
theorem ZaS (wr:World) (M:Int) (bl bb:Nat):Since wr (XQ wr M bl bb):=(((Since.refl wr).alloc _).alloc _).alloc _
theorem QY (wr:World) (M:Int) (bl bb:Nat):(XQ wr M bl bb).heap[wr.heap.size]? = some (.map #[{ key:=.int .i64 M,val:=.int .i64 1,born:=0 }] 1):=by
 unfold XQ;rw[Below.heap_alloc _ _ _ zaE,Below.heap_alloc _ _ _ zaL,ZG]
theorem Zdb (wr:World) (M:Int) (bl bb:Nat):(XQ wr M bl bb).heap[wr.heap.size+1]? = some (.cells #[.map (some wr.heap.size)] 129 (0,0)):=by
 unfold XQ;rw[Below.heap_alloc _ _ _ zaL];have:=ZG (wr.alloc (.map #[{ key:=.int .i64 M,val:=.int .i64 1,born:=0 }] 1)) (.cells #[.map (some wr.heap.size)] 129);simpa using this
theorem ZdU (wr:World) (M:Int) (bl bb:Nat):(XQ wr M bl bb).cell? ⟨wr.heap.size+1+1,0,none⟩=some (.func (.func 74) #[] #[.pointer (some ⟨wr.heap.size+1,0,none⟩),.pointer (some ⟨bl,0,none⟩),.pointer (some ⟨bb,0,none⟩),.pointer (some ⟨wr.heap.size+1+1,0,none⟩)]):=by
 have:=ZG ((wr.alloc (.map #[{ key:=.int .i64 M,val:=.int .i64 1,born:=0 }] 1)).alloc (.cells #[.map (some wr.heap.size)] 129)) (.cells #[.func (.func 74) #[] #[.pointer (some ⟨wr.heap.size+1,0,none⟩),.pointer (some ⟨bl,0,none⟩),.pointer (some ⟨bb,0,none⟩),.pointer (some ⟨wr.heap.size+1+1,0,none⟩)]] 113);unfold XQ;have e:((wr.alloc (.map #[{ key:=.int .i64 M,val:=.int .i64 1,born:=0 }] 1)).alloc (.cells #[.map (some wr.heap.size)] 129)).heap.size=wr.heap.size+1+1:=by simp
 rw[e]at this;unfold World.cell?;rw[this];rfl
theorem ZeG (d:Nat→Nat→Bool) (n:Nat):(bhs d n).length=n:=by simp[bhs]
def Zfi (x:Int) (w:World) (e:Ending) (w':World):Prop:=e=.returned (.int .i64 x)∧Since w w'
def JM (d:Nat→Nat→Bool) (n:Nat):Int:=cnt (bhs d n) n 0
theorem Zbi {w wr:World} {a : Option Addr} {cap:Nat} {d : Nat→Nat→Bool} {n bb:Nat} (hn:n≤12) (h:InLoop w (.slice a n cap) d n (w.heap.size+1) w.heap.size bb n 0 wr) :
  Calls prog 74 #[.int .i64 0,.pointer (some ⟨wr.heap.size+1,0,none⟩),.pointer (some ⟨w.heap.size,0,none⟩),.pointer (some ⟨bb,0,none⟩),.pointer (some ⟨wr.heap.size+1+1,0,none⟩)]
   (XQ wr (2 ^ n-1) w.heap.size bb) (Zfi (JM d n) w):=by
 obtain⟨h1,h2,h3,h4,l1,l2,l3,l4,l5⟩:=h;have hS:=ZaS wr (2 ^ n-1) w.heap.size bb;have ha:=ZeG d n;have hM:((2:Int) ^ n-1)=((2 ^ n-1:Nat):Int):=by
  have:1≤2 ^ n:=Nat.pow_pos zaJ;rw[Int.natCast_sub this];push_cast;rfl
 have hb:w.heap.size+1<wr.heap.size:=(Array.getElem?_eq_some_iff.1 h4).1;have hc:Ready (bhs d n) wr.heap.size (wr.heap.size+1) w.heap.size bb (wr.heap.size+1+1) (XQ wr (2 ^ n-1) w.heap.size bb):=by
  refine⟨?_,⟨a,cap,?_⟩,⟨.slice (some ⟨w.heap.size+1,0,none⟩) n n,?_,?_,?_⟩,ZdU _ _ _ _,zaK,zaK,zaK,zaK⟩
  ·unfold World.cell?;rw[Zdb];rfl
  ·rw[hS.cell (p:=⟨w.heap.size,0,none⟩) l2,ha];exact h2
  ·rw[hS.cell (p:=⟨bb,0,none⟩) l3];exact h3
  ·have:=RowAt.nums h4 (by rw[Zcw];unfold maxLen;omega);rw[Zcw,ZeM]at this;exact Zy.keep this hS
  ·intro q hq;simp[Value.ownBlock]at hq;omega
 have hd:Memo (cnt (bhs d n) (bhs d n).length) (XQ wr (2 ^ n-1) w.heap.size bb) wr.heap.size:=by
  refine⟨_,_,QY _ _ _ _,fun e he=>?_⟩;simp only[List.mem_singleton]at he;subst he;refine⟨2 ^ n-1,by rw[hM],?_⟩;rw[ha,Zd2]
 have hf:HasKey (XQ wr (2 ^ n-1) w.heap.size bb) wr.heap.size (2 ^ (bhs d n).length-1):=by
  refine⟨_,_,QY _ _ _ _,_,List.mem_singleton.2 rfl,?_⟩;rw[ha];dsimp only;rw[hM]
 have:=Zde (bhs d n) zaK wr.heap.size (wr.heap.size+1) w.heap.size bb (wr.heap.size+1+1) _ 0 _ (Nat.le_refl _) (by exact Nat.pow_pos zaJ) hc hd hf
 refine Calls.mono this fun e w' hp=>?_
 obtain⟨he,hg,_,_⟩:=hp;refine⟨?_,Since.but (h1.trans hS) zaK hg⟩;rw[he,ha];rfl
attribute [local simp] Q1 KT
theorem ZbT (v:Value) (ms:List (Mach × Value)) (w:World) (h:JR w v ms) (hn:ms.length≤12) :
  Calls prog 48 #[v] w (Zfi (JM (Wz ms) ms.length) w):=by
 have hl:∃ a cap,v=.slice a ms.length cap:=by
  rcases h with ⟨_,h1,h2⟩|⟨b,off,cap,h1,_⟩
  ·subst h2;exact⟨_,_,h1⟩
  ·exact⟨_,_,h1⟩
 obtain⟨a,cap,rfl⟩:=hl;have H:=hid h;clear h;generalize hN:ms.length=n at *;have HN:=hid hN;clear hN;generalize hX:JM (Wz ms) n=X;have HX:=hid hX;clear hX;obtain⟨ti,hi,hH,hG,hF⟩:=info_parts (P:=prog) (e:=3) (z:=.int .i64 0) (size:=1) (bytes:=8) zaF;go_enter func48,ntmps48
 go_wp2_with (at_make;refine wpList_make_full _ rfl (.tmp 12) (.tmp 12) 22 rfl w.heap.size 3 ti (.int .i64 0) 1 underlying22 hi hH hG .i64 .i64 _ _ n rfl rfl rfl rfl (by rw[hF];omega) zaq zaL ?_;intro w1 ho hj;obtain⟨hx,hm,hC,hD,hv⟩:=Zb2 (Wz ms) _ ho hj;clear ho hj;have hE:=hid hm;have hQ:=hid hx;clear hm hx)
 go_loopw [16] (fun i wr=>∃ k:Nat,k≤n∧i=.int .i64 k∧InLoop w (.slice a n cap) (Wz ms) n (w.heap.size+1) w.heap.size w1.heap.size k 0 wr) (fun i _=>n-(intOf i).toNat)
 case atStart =>
  refine⟨0,Nat.zero_le _,rfl,hQ.out.alloc _,hv _,?_,?_,zaK,by simp;omega,by simp,zaK,zaK⟩
  ·unfold World.cell?;rw[ZG];rfl
  ·exact (Below.block ((Since.refl w1).alloc _) _ hC).trans hE.out
 case round =>
  obtain⟨i,h6,rfl,hr⟩:=hrel;have HR:=hid hr;clear hr;have hz:=HR.out.box;by_cases hM:i<n
  ·go_wp2
   go_loopw [20] (fun j wr=>∃ k:Nat,k≤i∧j=.int .i64 k∧InLoop w (.slice a n cap) (Wz ms) n (w.heap.size+1) w.heap.size w1.heap.size i k wr) (fun j _=>i-(intOf j).toNat)
   case atStart=>exact⟨0,Nat.zero_le _,rfl,HR.out⟩
   case round =>
    obtain⟨j,h5,rfl,hr⟩:=hrel;have hc:=hid hr;clear hr;by_cases h4:j<i
    ·obtain⟨B,off,rfl,hB,hb⟩:∃ B off,a=some ⟨B,off,none⟩∧B<w.heap.size∧∀ (j:Nat) (x:Mach × Value),ms[j]? = some x→JJ w B (off+j*8) x.1 x.2:=by
      rcases H.out with ⟨_,h1,h2⟩|⟨B,off,cap2,h1,h2,h3⟩
      ·have:=HN.out;rw[h2]at this;simp at this;omega
      ·injection h1 with h1 _ _;exact⟨B,off,h1,h2,h3⟩
     obtain⟨⟨mi,ai⟩,hq⟩:∃ x,ms[i]? = some x:=⟨_,List.getElem?_eq_getElem (by have:=HN.out;omega)⟩
     obtain⟨⟨mj,aj⟩,hp⟩:∃ x,ms[j]? = some x:=⟨_,List.getElem?_eq_getElem (by have:=HN.out;omega)⟩
     have hd:Wz ms j i=Zw mj mi:=by simp[Wz,hq,hp]
     have hS:=hid ((hb i _ hq).keep hB hc.out.since);have hR:=hid ((hb j _ hp).keep hB hc.out.since);have hA:=zH (B<wr.heap.size) (Nat.lt_of_lt_of_le hB hc.out.since.size);have HD:=hid hd;clear hb hq hp hd hB hz hD;have hy:=hc.out.box;have hT:=hid (show w.heap.size<wr.heap.size from by
      have:=(Array.getElem?_eq_some_iff.1 (show wr.heap[w.heap.size+1]? = _ from hc.out.row)).1;omega)
     go_wp2
     refine Zu rfl zaC zaC
      [Is (.slice (some ⟨B,off,none⟩) n cap),Is (.int .i64 j),Is (.pointer (some ⟨B,off+j*8,none⟩)),Is (mv mj aj),Is (.slice (some ⟨B,off,none⟩) n cap),Is (.int .i64 i),Is (.pointer (some ⟨B,off+i*8,none⟩)),Is (mv mi ai),Is (.bool (Zw mj mi))]
      ⟨Is.stable _,Is.stable _,Is.stable _,Is.stable _,Is.stable _,Is.stable _,Is.stable _,Is.stable _,Is.stable _,trivial⟩ ⟨?_,?_,?_,?_,?_,?_,?_,?_,?_,trivial⟩ ?_
     all_goals
      intro vs w2 hs hk;have hU:w2.cell? ⟨w.heap.size,0,none⟩=_:=(hs.cell (p:=⟨w.heap.size,0,none⟩) hT.out).trans hy;have hh:=hid (hS.out.keep hA.out hs);have hg:=hid (hR.out.keep hA.out hs);revert hk;refine zs2 ?_;intro hk
      clear hy
     iterate 3
      ·exact kH
     ·obtain⟨c0,c1,c2,c3,c4,c5,c6,c7,_,_⟩:=hg.out;exact kH
     iterate 3
      ·exact kH
     ·obtain⟨c0,c1,c2,c3,c4,c5,c6,c7,_,_⟩:=hh.out;exact kH
     ·have ha:=XF mj mi aj ai w2 hg.out.args hh.out.args hg.out.fine hh.out.fine;have HC:=hid ha;clear ha;go_wp2_with fail
      refine HC.out.mono ?_;rintro e w3 ⟨rfl,hI⟩;go_wp2
      exact⟨_,rfl,rfl,hI⟩
     ·have hP:=hid hs;clear hs;have hf:=hid (hc.out.keep hP.out)
      cases he:Zw mj mi with
      | false =>
       go_wp2
       go_roundw
       case rel=>exact⟨j+1,zaK,by go_num,hf.out.no (HD.out.trans he)⟩
       case measure=>simp[intOf];omega
      | true =>
       have h8:=hf.out.beh;have hZ:=hf.out.row.cell (Zfq (Wz ms) n i j hM);have hu:=hid (hf.out.store (HD.out.trans he));have h7:w2.frozen? ⟨w.heap.size+1,i,none⟩=false:=by
        have:=hf.out.row;unfold RowAt at this;simp[World.frozen?,this]
       have hK:(0:Int)≤2 ^ j:=Int.le_of_lt (Int.pow_pos zaJ);have hJ:(2:Int) ^ j≤8192:=by
        have:(2:Nat) ^ j≤2 ^ 13:=Nat.pow_le_pow_right zaJ zaK;have e:(2:Int) ^ j=((2 ^ j:Nat):Int):=by push_cast;rfl
        omega
       generalize hL:msk (Wz ms) i j=mval at *;clear hL;have hW:=hid he;clear he;go_wp2
       go_region
       go_wp2
       go_roundw
       case rel =>
        exact⟨j+1,zaK,by go_num,hu.out.keep (Since.refl _).drew⟩
       case measure=>simp[intOf];omega
    ·obtain rfl:j=i:=zaK
     go_wp2
     go_roundw
     case rel=>exact⟨j+1,zaK,by go_num,hc.out.row_done⟩
     case measure=>simp[intOf];omega
  ·obtain rfl:i=n:=zaK
   have h0:=@run_makeMap prog;have hY:=@X2 prog _ _ _ underlying129 underlying3;have hK:(0:Int)≤2 ^ i:=Int.le_of_lt (Int.pow_pos zaJ);have hJ:(2:Int) ^ i≤8192:=by
    have:(2:Nat) ^ i≤2 ^ 13:=Nat.pow_le_pow_right zaJ zaK;have e:(2:Int) ^ i=((2 ^ i:Nat):Int):=by push_cast;rfl
    omega
   have ht:w.heap.size<wr.heap.size:=HR.out.lt.2.1;have hV:∀ o,(wr.alloc o).cell? ⟨w.heap.size,0,none⟩=some (.slice a i cap):=fun o=>(((Since.refl wr).alloc o).cell (p:=⟨w.heap.size,0,none⟩) ht).trans hz
   clear ht;have ha:=Zbi hn HR.out;have HC:=hid ha;clear ha;go_wp2_with fail
   refine HC.out.mono ?_;rw[HX.out];rintro e w9 ⟨rfl,hw⟩;have hO:=hid hw;clear hw;go_wp2
   go_ret
   exact⟨rfl,hO.out⟩
def Xj:Value:=.slice none 0 0
def aM0:Mach:=⟨3,1,0,0,0,0,0,[]⟩
def aM1:Mach:=⟨3,2,0,0,0,0,0,[]⟩
def aM2:Mach:=⟨5,3,0,1,2,0,0,[]⟩
def aMA:Mach:=⟨24,1,0,3,0,0,0,[]⟩
def aMB:Mach:=⟨24,2,0,4,0,0,0,[]⟩
def aMS:Mach:=⟨26,0,0,5,6,0,0,[]⟩
theorem YV {m : Mach} (h:m.args=[]) (hi : -2147483648≤m.imm∧m.imm≤2147483647):Xt m:=by
 exact⟨hi.1,hi.2,by rw[h];decide⟩
theorem Zbe (w:World):JR (w.alloc (.cells #[.int .i64 3,.int .i64 1,.int .i64 0,.int .i64 0,.int .i64 0,.int .i64 0,.int .i32 0,.slice none 0 0,.int .i64 3,.int .i64 2,.int .i64 0,.int .i64 0,.int .i64 0,.int .i64 0,.int .i32 0,.slice none 0 0,.int .i64 5,.int .i64 3,.int .i64 0,.int .i64 1,.int .i64 2,.int .i64 0,.int .i32 0,.slice none 0 0] 36)) (.slice (some ⟨w.heap.size,0,none⟩) 3 3) [(aM0,Xj),(aM1,Xj),(aM2,Xj)]:=by
 refine .inr ⟨w.heap.size,0,3,rfl,by simp,?_⟩;intro j x hj;have hb:=ZG w (.cells #[.int .i64 3,.int .i64 1,.int .i64 0,.int .i64 0,.int .i64 0,.int .i64 0,.int .i32 0,.slice none 0 0,.int .i64 3,.int .i64 2,.int .i64 0,.int .i64 0,.int .i64 0,.int .i64 0,.int .i32 0,.slice none 0 0,.int .i64 5,.int .i64 3,.int .i64 0,.int .i64 1,.int .i64 2,.int .i64 0,.int .i32 0,.slice none 0 0] 36)
 match j,hj with
 | 0,hj=>cases hj;constructor<;>first | exact .nil _ _ | exact YV rfl zaJ | (unfold World.cell?;rw[hb];rfl)
 | 1,hj=>cases hj;constructor<;>first | exact .nil _ _ | exact YV rfl zaJ | (unfold World.cell?;rw[hb];rfl)
 | 2,hj=>cases hj;constructor<;>first | exact .nil _ _ | exact YV rfl zaJ | (unfold World.cell?;rw[hb];rfl)
 | j+3,hj=>simp at hj
theorem ZaA:JM (Wz [(aM0,Xj),(aM1,Xj),(aM2,Xj)]) 3=2:=by decide +kernel
theorem Zdi (w:World):Calls prog 20 #[] w (ZD true w):=by
 have D1:=fun w1=>XF aMS aMA Xj Xj w1 (.nil _ _) (.nil _ _) (YV rfl zaJ) (YV rfl zaJ)
 have D2:=fun w1=>XF aMA aMB Xj Xj w1 (.nil _ _) (.nil _ _) (YV rfl zaJ) (YV rfl zaJ)
 have D3:=fun w1=>XF aM0 aM2 Xj Xj w1 (.nil _ _) (.nil _ _) (YV rfl zaJ) (YV rfl zaJ)
 have D4:=fun w1=>XF aM0 aM1 Xj Xj w1 (.nil _ _) (.nil _ _) (YV rfl zaJ) (YV rfl zaJ)
 rw[show Zw aMS aMA=true from by decide +kernel]at D1;rw[show Zw aMA aMB=false from by decide +kernel]at D2;rw[show Zw aM0 aM2=true from by decide +kernel]at D3;rw[show Zw aM0 aM1=false from by decide +kernel]at D4;simp only[mv,Xj,aM0,aM1,aM2,aMA,aMB,aMS]at D1 D2 D3 D4;have hf:=hid D1;have he:=hid D2;have hd:=hid D3;have hc:=hid D4;clear D1 D2 D3 D4;go_enter func20,ntmps20
 go_wp2
 refine Zu rfl zaC zaC
  [Is (.slice (some ⟨w.heap.size,0,none⟩) 3 3),Is (.int .i64 2),Is (.bool true),Is (.bool true),Is (.agg #[.int .i64 26,.int .i64 0,.int .i64 0,.int .i64 5,.int .i64 6,.int .i64 0,.int .i32 0,.slice none 0 0]),Is (.agg #[.int .i64 24,.int .i64 1,.int .i64 0,.int .i64 3,.int .i64 0,.int .i64 0,.int .i32 0,.slice none 0 0]),Is (.bool true),Is (.bool true),Is (.bool true),Is (.agg #[.int .i64 24,.int .i64 1,.int .i64 0,.int .i64 3,.int .i64 0,.int .i64 0,.int .i32 0,.slice none 0 0]),Is (.agg #[.int .i64 24,.int .i64 2,.int .i64 0,.int .i64 4,.int .i64 0,.int .i64 0,.int .i32 0,.slice none 0 0]),Is (.bool false),Is (.bool true),Is (.bool true),Is (.bool true),Is (.slice (some ⟨w.heap.size,0,none⟩) 3 3),Is (.pointer (some ⟨w.heap.size,0,none⟩)),Is (.agg #[.int .i64 3,.int .i64 1,.int .i64 0,.int .i64 0,.int .i64 0,.int .i64 0,.int .i32 0,.slice none 0 0]),Is (.slice (some ⟨w.heap.size,0,none⟩) 3 3),Is (.pointer (some ⟨w.heap.size,16,none⟩)),Is (.agg #[.int .i64 5,.int .i64 3,.int .i64 0,.int .i64 1,.int .i64 2,.int .i64 0,.int .i32 0,.slice none 0 0]),Is (.bool true),Is (.bool true),Is (.bool true),Is (.slice (some ⟨w.heap.size,0,none⟩) 3 3),Is (.pointer (some ⟨w.heap.size,0,none⟩)),Is (.agg #[.int .i64 3,.int .i64 1,.int .i64 0,.int .i64 0,.int .i64 0,.int .i64 0,.int .i32 0,.slice none 0 0]),Is (.slice (some ⟨w.heap.size,0,none⟩) 3 3),Is (.pointer (some ⟨w.heap.size,8,none⟩)),Is (.agg #[.int .i64 3,.int .i64 2,.int .i64 0,.int .i64 0,.int .i64 0,.int .i64 0,.int .i32 0,.slice none 0 0]),Is (.bool false),Is (.bool true),Is (.bool true),Is (.bool true)]
  kX ⟨?_,?_,?_,?_,?_,?_,?_,?_,?_,?_,?_,?_,?_,?_,?_,?_,?_,?_,?_,?_,?_,?_,?_,?_,?_,?_,?_,?_,?_,?_,?_,?_,?_,?_,trivial⟩ ?_
 all_goals
  intro vs w1 hs hk;have hi:∀ i,w1.cell? ⟨w.heap.size,i,none⟩=_:=fun i=>hs.cell (p:=⟨w.heap.size,i,none⟩) (by simp<;>omega)
  have hh:∀ i,w1.cell? ⟨w.heap.size+1,i,none⟩=_:=fun i=>hs.cell (p:=⟨w.heap.size+1,i,none⟩) (by simp<;>omega)
  have hg:∀ i,w1.cell? ⟨w.heap.size+1+1,i,none⟩=_:=fun i=>hs.cell (p:=⟨w.heap.size+1+1,i,none⟩) (by simp<;>omega)
  have HS:=hid hs;clear hs;revert hk;refine zs2 ?_;intro hk
  clear hk
 ·exact kH
 ·have hb:=ZbT (.slice (some ⟨w.heap.size,0,none⟩) 3 3) [(aM0,Xj),(aM1,Xj),(aM2,Xj)] w1 (JR.keep (Zbe w) (Since.trans (((Since.refl _).alloc _).alloc _) HS.out)) zaJ;rw[show ([(aM0,Xj),(aM1,Xj),(aM2,Xj)]:List (Mach × Value)).length=3 from rfl,ZaA]at hb
  have HC:=hid hb;clear hb;go_wp2_with fail
  refine HC.out.mono ?_;exact j7
 iterate 4
  ·exact kH
 ·go_wp2_with fail
  refine (hf.out _).mono ?_;exact j7
 iterate 4
  ·exact kH
 ·go_wp2_with fail
  refine (he.out _).mono ?_;exact j7
 iterate 9
  ·exact kH
 ·go_wp2_with fail
  refine (hd.out _).mono ?_;exact j7
 iterate 8
  ·exact kH
 ·go_wp2_with fail
  refine (hc.out _).mono ?_;exact j7
 iterate 3
  ·exact kH
 ·go_wp2
  go_ret
  exact⟨rfl,Since.trans ((((Since.refl _).alloc _).alloc _).alloc _) HS.out⟩
end Go.Proofs.YtimpddecdodddaaGreat
