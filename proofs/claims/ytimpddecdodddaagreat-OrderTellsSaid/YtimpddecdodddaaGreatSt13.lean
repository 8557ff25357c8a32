import Derived.Test.YtimpddecdodddaaGreatSt12
import Derived.Laws.Rows
import Derived.Deep.CutBlock
namespace Go.Proofs.YtimpddecdodddaaGreat
open Go.Proofs.Tryz Go.RowKit Go.Lib
theorem y6 {P:Prop} (h:P:=by
 rintro q (hq|hq)
 ·exact .inl (.inl hq)
 ·rcases (hC q hq).1 with h1|h1
  ·exact .inl (.inr h1)
  ·exact .inr h1):P:=h
theorem jE {P:Prop} (h:P:=by
 rcases hS q ho with h1|h1
 ·exact (h.aside q hq).2 h1
 ·have:=(h.aside q hq).1;omega):P:=h
theorem jW {P:Prop} (h:P:=by
 go_wp2_with fail
 go_end0
 refine⟨_,?_,H6.out,MV6.out.more⟩;exact rfl):P:=h
theorem kw {P:Prop} (h:P:=by
 go_wp2
 exact⟨_,rfl,rfl,Since.refl _,ha⟩):P:=h
theorem zal {P:Prop} (h:P:=by have:=SM0.out.1;omega):P:=h
theorem zam {P:Prop} (h:P:=by have:=SM2.out.1;omega):P:=h
theorem zao {P:Prop} (h:P:=by show 2≤maxLen;decide):P:=h
theorem zap {P:Prop} (h:P:=by show 1≤maxLen;decide):P:=h
theorem zar {P:Prop} (h:P:=by unfold In32;decide):P:=h
theorem zas {P:Prop} (h:P:=by unfold In32;omega):P:=h
def RR (p:Nat) (R R2:World→World→Prop) (k:Nat):World→World→Prop:=cond (Nat.beq k p) R R2
theorem Zee {p : Nat} {R R2:World→World→Prop} (h:∀ a b,R2 a b→R a b) (k:Nat) {a b:World} (hk:RR p R R2 k a b):R a b:=by
 unfold RR at hk
 cases hb:Nat.beq k p with
 | true=>rw[hb]at hk;exact hk
 | false=>rw[hb]at hk;exact h _ _ hk
theorem Zfu {p : Nat} {R R2:World→World→Prop} {k : Nat} (hn:k≠p) {a b:World} (hk:RR p R R2 k a b):R2 a b:=by
 unfold RR at hk
 cases hb:Nat.beq k p with
 | true=>exact absurd (Nat.eq_of_beq_eq_true hb) hn
 | false=>rw[hb]at hk;exact hk
def VJ (pv:Nat) (R R2:World→World→Prop) (Ph:Nat→World→Prop) (P:Program) (ops:Array Oper) (l:List Oper) (Q:Exit→Act→World→Prop) (F:Nat→Value→World→Prop) (a0:Act) (w0:World):List Oper→List Nat→List Nat→List Nat→Nat→Prop
 | o::r,lo::los,hi::his,inc::incs,k=>(∀ (p:Nat) (vs:Nat→Value) (w:World),lo≤p→p≤hi→R w0 w→Ph p w→Zp F vs w o.after.toList →
   wpList P ops (Zcm (RR pv R R2 k) Ph Q F k (p+inc) o.dst (putAll l 0 vs a0) w) [o] (putAll l 0 vs a0) w)∧VJ pv R R2 Ph P ops l Q F a0 w0 r los his incs (k+1)
 | _,_,_,_,_=>True
theorem Kx {pv:Nat} {R R2:World→World→Prop} {Ph:Nat→World→Prop} {P : Program} {ops:Array Oper} {l0:List Oper} {Q : Exit→Act→World→Prop} {F : Nat→Value→World→Prop} {a0:Act} {w0:World}:∀ (l:List Oper) (los ha incs:List Nat) (k:Nat),VJ pv R R2 Ph P ops l0 Q F a0 w0 l los ha incs k→los.length=l.length→ha.length=l.length→incs.length=l.length→∀ (i:Nat) (o:Oper),l[i]? = some o→ops[k+i]? = some o →
  ∀ (p:Nat) (vs:Nat→Value) (w:World),los.getD i 0≤p→p≤ha.getD i 0→R w0 w→Ph p w→Zp F vs w o.after.toList→∀ K:Act→World→Prop,(∀ a' w',Zaj (RR pv R R2 (k+i)) Ph F (k+i) (p+incs.getD i 0) o.dst (putAll l0 0 vs a0) w a' w'→K a' w') →
   wpOp P ops Q (k+i) K (putAll l0 0 vs a0) w
 | [],_,_,_,_,_,_,_,_,_,_,h,_=>by cases h
 | _::_,[],_,_,_,_,h,_,_,_,_,_,_=>by simp at h
 | _::_,_::_,[],_,_,_,_,h,_,_,_,_,_=>by simp at h
 | _::_,_::_,_::_,[],_,_,_,_,h,_,_,_,_=>by simp at h
 | p::r,lo::los,hi::ha,inc::incs,k,h,_,_,_,0,o,ho,hall=>by
  obtain rfl:p=o:=by simpa using ho
  intro q vs w hc hd hw hb hk K hK
  have:=h.1 q vs w hc hd hw hb hk
  unfold wpOp
  rw[hall]
  simp only[wpList]at this
  show if _ then _ else _
  split
  ·rename_i hwant
   rw[if_pos hwant]at this
   rcases this with this|⟨h1,h2⟩
   ·exact .inl (Oper.wp_turn (fun _ _ _ h=>h) (fun h=>h) (Oper.wp_mono (fun a' w' h=>hK a' w' h) this))
   ·exact .inr ⟨h1,h2⟩
  ·rename_i hwant
   rw[if_neg hwant]at this
   exact hK _ _ this
 | p::r,lo::los,hi::ha,inc::incs,k,h,h1,h2,h3,i+1,o,ho,hall=>by
  have:=Kx r los ha incs (k+1) h.2 zaw zax zay i o zaB kZ
  rw[show k+1+i=k+(i+1) from by omega]at this
  exact this
section
variable {P : Program} {Q : Exit→Act→World→Prop} {l t0:List Oper} {F : Nat→Value→World→Prop} {a0:Act} {w0:World} {pv:Nat} {R R2:World→World→Prop} {Ph:Nat→World→Prop} {keys los his incs:List Nat}
theorem Kc (hC:XU (l++t0) l.length keys los his incs=true) (Hg:∀ a b c,R a b→R b c→R a c) (hF:∀ i v w w',i≠pv→F i v w→R w w'→F i v w') (Hh:∀ i v w w',F i v w→R2 w w'→F i v w') (hX:∀ a b,R2 a b→R a b) (hd:ZU l=true) (hb:ZW (l++t0) 0=true) (hf:Xc (l++t0) l.length=true)
  (hs:VJ pv R R2 Ph P (l++t0).toArray l Q F a0 w0 l los his incs 0)
  (he:∀ vs w,R w0 w→Ph keys.length w→Zi F vs w 0 l.length→wpList P (l++t0).toArray Q t0 (putAll l 0 vs a0) w) :
  ∀ (fuel:Nat) (listed:Array Bool) (vs:Nat→Value) (w:World),listed.size=(l++t0).length→((List.range (l++t0).length).filter fun i=>!listed.getD i true).length≤fuel→R w0 w→Ph (Z1 keys listed) w→Ws (l++t0) listed →
   (∀ i,i<l.length→listed.getD i true=true→F i (vs i) w)→(∀ i,l.length≤i→i<(l++t0).length→listed.getD i true=false)→wpAny P .any (l++t0).toArray Q fuel listed (putAll l 0 vs a0) w:=by
 unfold XU at hC;simp only[Bool.and_eq_true,beq_iff_eq,decide_eq_true_eq,List.all_eq_true]at hC;obtain⟨⟨⟨⟨hM,hP⟩,hI⟩,h0⟩,hG⟩:=hC;have h9:l.length≤(l++t0).length:=by simp
 have hQ:∀ (fuel:Nat) (listed:Array Bool) (vs:Nat→Value) (w:World),listed.size=(l++t0).length→((List.range (l++t0).length).filter fun i=>!listed.getD i true).length≤fuel→R w0 w→Ph (Z1 keys listed) w→(∀ i,i<l.length→listed.getD i true=true) →
   (∀ i,i<l.length→listed.getD i true=true→F i (vs i) w)→(∀ i,l.length≤i→i<(l++t0).length→listed.getD i true=false)→wpAny P .any (l++t0).toArray Q fuel listed (putAll l 0 vs a0) w:=by
  intro fuel listed vs w hq hn hw hh hD hk hm;have hU:Z1 keys listed=keys.length:=by
   unfold Z1;rw[List.countP_eq_length];intro k hk;have hO:=hG k hk;rw[Z8 zaK];exact hD k hO
  rw[hU]at hh;refine Kg (n0:=l.length) (t0:=t0) hb zaL hf t0 0 rfl zaL fuel listed _ w hq hn (fun i hi=>hD i zaK) (fun i hi hB=>hm i zaK hB) ?_
  exact he vs w hw hh (Xk F vs w _ 0 fun i _ hi=>hk i zaK (hD i zaK))
 have h6:∀ i o,i<l.length→(l++t0)[i]? = some o→l[i]? = some o:=fun i o hi h=>by rwa [List.getElem?_append_left hi]at h
 intro fuel;induction fuel with
 | zero =>
  intro listed vs w hq hn hw hh ht hk hm;refine hQ 0 listed vs w hq hn hw hh (fun i hi=>?_) hk hm
  exact zP
 | succ fuel ih =>
  intro listed vs w hq hn hw hh ht hk hm;by_cases hy:∀ i,i<l.length→listed.getD i true=true
  ·exact hQ (fuel+1) listed vs w hq hn hw hh hy hk hm
  ·refine⟨fun hr=>?_,fun i hi=>?_⟩
   ·exfalso
    apply hy
    have all:∀ (n i:Nat),i<n→i<l.length→listed.getD i true=true:=by
     intro n;induction n with
     | zero=>intro i h;omega
     | succ n ihn =>
      intro i h1 h2
      cases hl:listed.getD i true with
      | true=>rfl
      | false =>
       exfalso
       have:i∈Region.ready .any (l++t0).toArray listed:=by
        rw[mem_ready];have ho:(l++t0)[i]? = some l[i]:=by rw[List.getElem?_append_left h2];exact List.getElem?_eq_getElem h2
        refine⟨hl,l[i],by simpa using ho,fun e hS hC=>?_⟩;have hz:=Z4 (l++t0) 0 hb i l[i] ho e hS hC;exact j9
       exact kL
    exact kB
   ·rw[mem_ready]at hi;obtain⟨h1,o,ho,hu⟩:=hi;have hc:(l++t0)[i]? = some o:=by simpa using ho
    have h4:i<(l++t0).length:=(List.getElem?_eq_some_iff.1 hc).1;have hz:i<l.length:=by
     exact yw
    have hV:=h6 i o hz hc;have hT:Zp F vs w o.after.toList:=by
     refine Wd F vs w _ fun e hS hK=>?_
     have hR:e∈o.after:=by simpa using hS
     have Hi:=Z4 (l++t0) 0 hb i o hc e hR hK;have h7:e.on<l.length:=zaK
     refine hk e.on h7 ?_;rw[←Z8 zaK];exact hu e hR hK
    have hB:listed.getD i false=false:=by rw[Z8 zaK];exact h1
    have h8:los.getD i 0≤Z1 keys listed:=by
     rw[hM];exact qE
    have Hc:Z1 keys listed≤his.getD i 0:=by
     rw[hP];simp only[List.getD_eq_getElem?_getD,List.getElem?_map,List.getElem?_range hz,Option.map_some,Option.getD_some];refine List.countP_mono_left fun k Ha hA=>?_
     simp only[Bool.and_eq_true,Bool.not_eq_true',beq_eq_false_iff_ne];refine⟨?_,fun e=>by rw[e,hB]at hA;cases hA⟩
     cases He:Xi (l++t0) (l++t0).length i k with
     | false=>rfl
     | true =>
      exfalso
      have hO:k<(l++t0).length:=Nat.lt_of_lt_of_le (hG k Ha) h9;have hW:(l++t0)[k]? = some (l++t0)[k]:=List.getElem?_eq_getElem hO;have:=YE ht _ _ _ He _ hW (ht k _ hW hA);rw[hB]at this;cases this
    have h5:incs.getD i 0=if keys.contains i then 1 else 0:=by
     exact yS
    have hE:=Kx l los his incs 0 hs (by rw[hM];simp) (by rw[hP];simp) (by rw[hI];simp) i o hV zaz (Z1 keys listed) vs w h8 Hc hw hh hT;simp only[Nat.zero_add]at hE;refine hE _ fun a' w' ⟨v,Hf,hv,hL,hg⟩=>?_
    subst Hf;have e:=Xe v l 0 vs a0 i o hV hd;rw[Nat.zero_add]at e;rw[←e];refine ih (listed.setIfInBounds i true) (upd vs i v) w' (by simpa using hq) ?_ (Hg _ _ _ hw (Zee hX i hL)) ?_ ?_ ?_ ?_
    ·have e2:((List.range (l++t0).length).filter fun j=>!(listed.setIfInBounds i true).getD j true)=((List.range (l++t0).length).filter fun j=>!listed.getD j true).filter fun j=>j != i:=by
      rw[List.filter_filter];refine List.filter_congr fun j hj=>?_
      by_cases ha:j=i
      ·subst ha;have Hb:j<listed.size:=zaK
       simp[Array.getD_eq_getD_getElem?,Hb]
      ·exact kE
     rw[e2];have h3:i∈(List.range (l++t0).length).filter fun j=>!listed.getD j true:=by
      rw[List.mem_filter];exact⟨List.mem_range.2 h4,by simp[h1]⟩
     have:=(List.length_filter_lt_length_iff_exists (p:=fun j=>j != i) (l:=(List.range (l++t0).length).filter fun j=>!listed.getD j true)).2 ⟨i,h3,by simp⟩
     omega
    ·rw[h5]at hg;by_cases hJ:i∈keys
     ·rw[WW zaK hB h0 hJ];rw[if_pos (by simpa using hJ)]at hg;exact hg
     ·rw[WV hJ];rw[if_neg (by simpa using hJ)]at hg;exact hg
    ·intro j p hp hH x hx hZ;by_cases ha:j=i
     ·subst ha;have:=hc.symm.trans hp;cases this
      exact getD_set_true (hu x hx hZ)
     ·rw[getD_set_ne _ (Ne.symm ha)]at hH;exact getD_set_true (ht j p hp hH x hx hZ)
    ·intro j hj hN;by_cases ha:j=i
     ·exact kM
     ·rw[YS _ _ ha];rw[getD_set_ne _ (Ne.symm ha)]at hN;by_cases hY:i=pv
      ·subst hY;exact hF _ _ _ _ ha (hk j hj hN) (Zee hX i hL)
      ·exact Hh _ _ _ _ (hk j hj hN) (Zfu hY hL)
    ·intro j hj hH;rw[getD_set_ne _ zaK];exact hm j hj hH
end
def AllBut (S:Nat→Prop) (pv:Nat):List (Value→World→Prop)→Nat→Prop
 | [],_=>True
 | f::r,k=>(k≠pv→Yw S f)∧AllBut S pv r (k+1)
theorem Ki {S : Nat→Prop} {pv:Nat}:∀ (l:List (Value→World→Prop)) (k:Nat),AllBut S pv l k→∀ i v w w',k+i≠pv→Zj l i v w→Zb S w w'→Zj l i v w'
 | [],_,_,_,_,_,_,_,h,_=>h
 | _::_,k,hl,0,v,w,w',hn,h,t=>hl.1 hn v w w' h t
 | _::r,k,hl,i+1,v,w,w',hn,h,t=>Ki r (k+1) hl.2 i v w w' zaK h t
theorem Xa {P : Program} {Q : Exit→Act→World→Prop} {all:List Oper} {a0:Act} {w0:World} {id:Nat} (n pv:Nat) (keys los hg incs:List Nat) (S:Nat→Prop) (Ph:Nat→World→Prop) (hm:P.follows .mixedOrders=true)
  (hd:ZU (all.take n)=true) (hb:ZW all 0=true) (hf:Xc all n=true) (hn:n≤all.length) (hk:XU all n keys los hg incs=true) (Fs:List (Value→World→Prop)) (hF:AllBut S pv Fs 0) (hp:Wm Fs) (hj:Ph 0 w0.drew)
  (hs:VJ pv (Zb S) Since Ph P all.toArray (all.take n) Q (Zj Fs) a0 w0 (all.take n) los hg incs 0)
  (he:∀ vs w,Zb S w0 w→Ph keys.length w→Zi (Zj Fs) vs w 0 n→wpList P all.toArray Q (all.drop n) (putAll (all.take n) 0 vs a0) w):(Code.region id all.toArray true).wp P Q a0 w0:=by
 refine wp_region_any hm ?_;have hc:(all.take n).length=n:=by rw[List.length_take];omega
 have ha:all.take n++all.drop n=all:=List.take_append_drop n all;have e:=Y1 (Yj (all.take n) a0) a0 (all.take n) 0 (fun i o d hi hh=>by simp only[Yj,Nat.zero_add,hi,Option.bind_some,hh]);have h:=Kc (l:=all.take n) (t0:=all.drop n) (P:=P) (Q:=Q) (F:=Zj Fs) (a0:=a0) (w0:=w0) (pv:=pv) (R:=Zb S) (R2:=Since) (by rw[ha,hc];exact hk) (fun _ _ _=>Zb.trans) (fun i v w w' hi hv ht=>Ki Fs 0 hF i v w w' zaK hv ht) (X8 Fs hp) (fun a b h=>Zb.since h) hd (by rw[ha];exact hb) (by rw[ha,hc];exact hf) (by rw[ha];exact hs) (by rw[ha,hc];exact he)
  all.length (Array.replicate all.length false) (Yj (all.take n) a0) { w0 with drawn:=w0.drawn+1 } (by rw[ha];simp) kV (Zb.since (Since.refl w0).drew)
  (by
   have:Z1 keys (Array.replicate all.length false)=0:=by
    unfold Z1;rw[List.countP_eq_zero];intro k _;simp[Array.getD_eq_getD_getElem?,Array.getElem?_replicate];split<;>rfl
   rw[this];exact hj)
  (fun i o ho hl=>by
   have hi:i<all.length:=by rw[←ha];exact (List.getElem?_eq_some_iff.1 ho).1
   simp[Array.getD_eq_getD_getElem?,hi]at hl)
  (fun i hi hl=>by
   have:i<all.length:=zaK
   simp[Array.getD_eq_getD_getElem?,this]at hl)
  (fun i _ hi=>by
   rw[ha]at hi;simp[Array.getD_eq_getD_getElem?,hi])
 rw[e,ha]at h;simpa using h
set_option linter.unusedVariables false
set_option maxHeartbeats 4000000
set_option maxRecDepth 100000
def fmakes (x:YF):List Int:=if x.op=16 then [] else if x.op=18 then [x.dst,x.two] else [x.dst]
theorem VZ (x:YF):(fmakes x).length≤2:=by
 unfold fmakes;split
 ·simp
 ·split<;>simp
theorem Js {N : Int} {x : YF} (h:Ye N x):∀ y∈fmakes x,0≤y∧y<N:=by
 intro y hy;unfold fmakes at hy;split at hy
 ·cases hy
 ·split at hy
  ·rcases List.mem_cons.1 hy with rfl|hy
   ·exact h.2.2.1
   ·obtain rfl:=List.mem_singleton.1 hy;exact h.2.2.2.1
  ·obtain rfl:=List.mem_singleton.1 hy;exact h.2.2.1
theorem KU (x:YF) (w:World):Calls prog 110 #[fiv x] w (Yo w (fmakes x)):=by
 obtain⟨op,dst,two,args,av,imm⟩:=x;unfold fiv fmakes;dsimp only;by_cases h1:op=16
 ·subst h1;rw[if_pos rfl];go_enter func110,ntmps110
  exact kr
 ·rw[if_neg h1];have hb:(op==16)=false:=by simpa using h1
  by_cases h2:op=18
  ·subst h2;rw[if_pos rfl];clear h1;go_enter func110,ntmps110
   go_wp2
   go_ret
   exact Zk ((Since.refl _).alloc _) [dst,two] _ zaL rfl zao rfl
  ·rw[if_neg h2];have ha:(op==18)=false:=by simpa using h2
   clear h1 h2;go_enter func110,ntmps110
   go_wp2
   go_ret
   exact Zk ((Since.refl _).alloc _) [dst] _ zaL rfl zap rfl
theorem Xf:∀ {l : List Nat} {n : Nat},n∈l→n≤l.sum
 | [],_,h=>by cases h
 | x::r,n,h=>by
  rw[List.sum_cons]
  rcases List.mem_cons.1 h with rfl|h
  ·omega
  ·have:=Xf h;omega
def WF (S:Nat→Prop) (x:YF) (v:Value) (w:World):Prop:=∃ b,v=.slice (some ⟨b,0,none⟩) 1 1∧HeapIs w b (Z6 x).toArray 180∧¬ S b
theorem WF.stable (S:Nat→Prop) (x:YF):ZH (WF S x):=fun v w w' ⟨b,h1,h2,h3⟩ s=>⟨b,h1,h2.keep s,h3⟩
theorem WF.stableT (S:Nat→Prop) (x:YF):Yw S (WF S x):=fun v w w' ⟨b,h1,h2,h3⟩ t=>⟨b,h1,h2.turn t h3,h3⟩
def Wx (w0:World) (v0:Value) (xs:List YF) (v:Value) (w:World):Prop:=∃ wa,Since w0 wa∧Zb (fun q=>v0.ownBlock=some q) wa w∧Yb wa v0 v∧OwnRow Z6 5 180 0 w v xs
theorem Wx.stable (w0:World) (v0:Value) (xs:List YF):ZH (Wx w0 v0 xs):=fun v w w' ⟨wa,h1,h2,h3,h4⟩ s=>⟨wa,h1,h2.trans (Zb.since s),h3,h4.keep s⟩
structure V9 (w0 w:World) (mb bb n:Nat) (x:YF) (m:Zm) (sv:Value) (w1:World):Prop where
 made:MkAt w1 mb sv m.at_ [.int .i64 m.params,.slice (some ⟨bb,0,none⟩) n n,.int .i64 m.next,m.livev]
 blocks:HeapIs w1 bb (m.bks.flatMap fbcells).toArray 177
 box:HeapIs w1 w.heap.size #[.int .i64 x.op,.int .i64 x.dst,.int .i64 x.two,x.av,.int .i32 x.imm] 180
def Zd8 (w0 w:World) (mb bb n:Nat) (x:YF) (m:Zm) (sv:Value) (p:Nat) (w1:World):Prop:=V9 w0 w mb bb n x m sv w1∧(p=0→Since w0 w1)
theorem V9.keep {w0 w w1 w2:World} {mb bb n:Nat} {x : YF} {m : Zm} {sv:Value} (h:V9 w0 w mb bb n x m sv w1) (s:Since w1 w2):V9 w0 w mb bb n x m sv w2:=⟨h.made.keep s,h.blocks.keep s,h.box.keep s⟩
theorem V9.turn {S : Nat→Prop} {w0 w w1 w2:World} {mb bb n:Nat} {x : YF} {m : Zm} {sv:Value} (h:V9 w0 w mb bb n x m sv w1) (t:Zb S w1 w2) (hn:¬ S mb∧¬ S bb∧¬ S w.heap.size):V9 w0 w mb bb n x m sv w2:=⟨HeapIs.turn (show HeapIs w1 mb _ _ from h.made) t hn.1,h.blocks.turn t hn.2.1,h.box.turn t hn.2.2⟩
section
variable {C : Nat→Prop} {mb:Nat} {bv sv:Value} {l : List Int} {m : Zm} {w : World}
theorem Mv.keep {w' w'':World} {m':Zm} {a n i:Nat} (h:Mv mb bv w m w' m' a n i) (s:Since w' w''):Mv mb bv w m w'' m' a n i:=
 ⟨h.turn.trans (Zb.since s),h.new,h.at_,h.next,h.total,h.live,h.same⟩
theorem Mv.setLive {w' w'':World} {m':Zm} {a n i:Nat} {more:List Int} {v : Value} (h:Mv mb bv w m w' m' a n i) (hS:∀ q,Own mb bv { m' with live:=m'.live++more,livev:=v } q→Own mb bv m' q∨w'.heap.size≤q) (t:Zb (Own mb bv m') w' w'') (hl:(m'.live++more).length≤m.live.length+2*i):Mv mb bv w m w'' { m' with live:=m'.live++more,livev:=v } a n i:=by
 have hz:=h.turn.size;have h1:Zb (fun q=>Own mb bv m q∨w.heap.size≤q) w w':=h.turn.mono fun _ _ h=>.inl h
 have h2:Zb (fun q=>Own mb bv m q∨w.heap.size≤q) w' w'':=t.mono fun q _ hq=>h.new q hq
 refine⟨(h1.trans h2).mono fun q hq hs=>?_,fun q hq=>?_,h.at_,h.next,h.total,hl,h.same⟩
 ·exact kD
 ·rcases hS q hq with h3|h3
  ·exact h.new q h3
  ·exact .inr zaK
theorem Yz (h:MkOk C mb bv sv l m w) (hs:Sm 70 m) (b:Nat) (hb:b<m.bks.length) (x:YF) (hx:Zd w x.av x.args∧Stays (ZE C mb bv m) w x.av) (hg:Ye m.next x) :
  Calls prog 144 #[.pointer (some ⟨mb,0,none⟩),.int .i64 b,fiv x] w (MkQ C mb bv sv l w m 0 0 1 fun m' e=>e=.returned (.tuple #[])∧m'.next=m.next):=by
 obtain⟨k,hk⟩:∃ k,m.bks[b]? = some k:=⟨_,List.getElem?_eq_getElem hb⟩
 have hM:=List.mem_of_getElem? hk;have hw:=h.each k hM;obtain⟨bb,Hn⟩:∃ bb,bv=.slice (some ⟨bb,0,none⟩) m.bks.length m.bks.length:=by
  rcases h.bks with ⟨_,h2⟩|⟨bb,h1,_⟩
  ·rw[h2]at hb;simp at hb
  ·exact⟨bb,h1⟩
 subst Hn;have hB:=h.bbAt (bb:=bb) rfl;obtain⟨ia,ic,hj⟩:=Ze (show w.ownsRow _ _ _ _ _ _ from hw.ins);obtain⟨HF,hH,Hk,HE⟩:=hs;have Hg:=h.few;have Hm:k.ins.length≤70000:=by
  refine Nat.le_trans ?_ Hk;unfold Zm.total;exact Xf (List.mem_map.2 ⟨k,hM,rfl⟩)
 obtain⟨il,hp⟩:∃ n,k.ins.length=n:=⟨_,rfl⟩
 obtain⟨n,hn⟩:∃ n,m.bks.length=n:=⟨_,rfl⟩
 rw[hp]at hj;have h9:(m.bks.flatMap fbcells).toArray[b*6+1]? = some (.slice ia il ic):=by
  rw[←hj,List.getElem?_toArray,Wk fbcells 6 ZZ m.bks b 1 k hk zaJ];rfl
 obtain⟨w0,hu⟩:∃ w0,w0=w.alloc (.cells #[.int .i64 x.op,.int .i64 x.dst,.int .i64 x.two,x.av,.int .i32 x.imm] 180):=⟨_,rfl⟩
 have hd:Since w w0:=by rw[hu];exact (Since.refl w).alloc _
 have hy:HeapIs w0 w.heap.size #[.int .i64 x.op,.int .i64 x.dst,.int .i64 x.two,x.av,.int .i32 x.imm] 180:=by rw[hu];exact HeapIs.new _ _ _
 have hY:=hid (h.keep hd);have hV:=zH (OwnRow Z6 5 180 0 w0 (.slice ia il ic) k.ins) (by rw[←hj];exact hw.ins.keep hd);have Hh:=zH (Zd8 w0 w mb bb n x m sv 0 w0.drew) ⟨⟨by rw[←hn];exact h.made.keep hd.drew,hB.keep hd.drew,hy.keep (Since.refl _).drew⟩,fun _=>(Since.refl _).drew⟩
 have Hz:=zH (∀ q,(Value.slice ia il ic).ownBlock=some q→q<w0.heap.size) (fun q hq=>ZR hV.out hq)
 have Hy:=hid (show ¬ (Value.slice ia il ic).ownBlock=some mb∧¬ (Value.slice ia il ic).ownBlock=some bb∧¬ (Value.slice ia il ic).ownBlock=some w.heap.size from by
  rw[←hj];exact⟨h.mb_ins hM,Zn hw.ins hB zaJ,fun e=>by have:=ZR hw.ins e;omega⟩)
 have Hf:=hid h9;have HB:=zH (x.av.oneCell'=true) (by obtain⟨a,c,e⟩:=Zc hx.1;rw[e];rfl);have HX:=hid hx;have HG:=hid hg;have HK:=hid hk;have HN:=hid hn;have He:=hid hj;have hF:=hid hp;have hz:=hid hd;have HQ:=hid hy;rw[hp]at Hm;rw[hn]at hb Hg;clear h hw hB hj h9 hd hy hx hg hk hM hn hp;go_enter func144,ntmps144
 unfold fiv;go_wp2_with fail
 rw[←hu];have HM:=hid hu;clear hu;refine Xa 18 17 [17] [0,0,0,0,0,0,0,0,0,0,0,0,0,0,0,0,0,0] [1,1,1,1,1,1,0,0,0,0,0,0,0,0,0,0,0,0] [0,0,0,0,0,0,0,0,0,0,0,0,0,0,0,0,0,1] (fun q=>(Value.slice ia il ic).ownBlock=some q) (Zd8 w0 w mb bb n x m sv) rfl zaC zaC zaC zaJ zaC
  [Is (.pointer (some ⟨mb,0,none⟩)),Is (.pointer (some ⟨mb,0,none⟩)),Is (.pointer (some ⟨mb,2,none⟩)),Is (.pointer (some ⟨mb,3,none⟩)),Is (.slice (some ⟨bb,0,none⟩) n n),Is (.int .i64 b),Is (.pointer (some ⟨mb,0,none⟩)),Is (.pointer (some ⟨mb,0,none⟩)),Is (.pointer (some ⟨mb,2,none⟩)),Is (.pointer (some ⟨mb,3,none⟩)),Is (.slice (some ⟨bb,0,none⟩) n n),Is (.int .i64 b),Is (.pointer (some ⟨bb,b*6,none⟩)),Is (.pointer (some ⟨bb,b*6+1,none⟩)),Is (.slice ia il ic),Is (fiv x),WF (fun q=>(Value.slice ia il ic).ownBlock=some q) x,Wx w0 (.slice ia il ic) (k.ins++[x])]
  (by repeat (first | exact trivial | refine⟨fun h=>absurd rfl h,?_⟩ | refine⟨fun _=>Is.stableT _ _,?_⟩ | refine⟨fun _=>Any.stableT _,?_⟩ | refine⟨fun _=>WF.stableT _ _,?_⟩)) (by repeat (first | exact trivial | refine⟨Is.stable _,?_⟩ | refine⟨Any.stable,?_⟩ | refine⟨WF.stable _ _,?_⟩ | refine⟨Wx.stable _ _ _,?_⟩)) Hh.out ⟨?_,?_,?_,?_,?_,?_,?_,?_,?_,?_,?_,?_,?_,?_,?_,?_,?_,?_,trivial⟩ ?_
 rotate_right
 ·intro vs w2 ht ha hk;revert hk;refine zs0 ?_;intro hk
  obtain⟨wa,h7,h6,hi,hh⟩:Wx w0 (.slice ia il ic) (k.ins++[x]) (vs 17) w2:=by exact hk.2.2.2.2.2.2.2.2.2.2.2.2.2.2.2.2.2.1
  generalize vs 17=nv at *;have Hq:w2.cell? ⟨bb,b*6+1,none⟩=some (.slice ia il ic):=(ha.1.blocks.cell (b*6+1)).trans Hf.out;have Hp:=ha.1.blocks.frozen;have Ho:=ha.1.blocks.lt;have hA:=hid ha.1;have hO:=hid h7;have Hs:=hid h6;have Hi:=hid hi;have hW:=hid hh;clear hk ha ht h7 h6 hi hh;obtain⟨na,nc,h8⟩:=Ze (show w2.ownsRow _ _ _ _ _ _ from hW.out);rw[show (k.ins++[x]).length=il+1 from by rw[List.length_append,hF.out];rfl]at h8
  subst h8;go_upto_region 2 with (fail)
  have hE:=(hY.out.keep hO.out).addIns (w':=w2) (v:=.slice na (il+1) nc) HK.out rfl hW.out (by rw[He.out];exact Hs.out) (by rw[He.out];exact Hi.out) ⟨HX.out.1.keep (hz.out.trans hO.out),HX.out.2.keep (hz.out.trans hO.out)⟩ HG.out;have hU:HeapIs (w2.setCell ⟨bb,b*6+1,none⟩ (.slice na (il+1) nc)) w.heap.size #[.int .i64 x.op,.int .i64 x.dst,.int .i64 x.two,x.av,.int .i32 x.imm] 180:=hA.out.box.turn ((Zb.refl (fun q=>q=bb) w2).setCell (p:=⟨bb,b*6+1,none⟩) rfl _) (Yq hA.out.box hA.out.blocks zaJ);have hv:=Mv.since (hz.out.trans hO.out) hE.2;have hX:=hid hE.1;have hZ:=hid hv;have Hj:=hid hU;clear hE hU hv Hq Hp Ho;generalize (w2.setCell ⟨bb,b*6+1,none⟩ (.slice na (il+1) nc))=w4 at *;go_wp2_with (refine wpList_load_row rfl _ _ rfl w.heap.size rfl 180 _ (0,0) _ Hj.out underlying180 rfl zaF ?_)
  refine (KU x w4).mono ?_;rintro e w5 ⟨mv,rfl,hT,hQ⟩;obtain⟨ma,mc,hv⟩:=Zc hT;have Hx:=hid hT;obtain⟨mm,hS⟩:∃ mm,mm={ m with bks:=m.bks.set b { k with ins:=k.ins++[x],inv:=.slice na (il+1) nc } }:=⟨_,rfl⟩
  rw[←hS]at hX hZ;have ho:mm.livev=m.livev∧mm.live=m.live∧mm.next=m.next:=by rw[hS];exact⟨rfl,rfl,rfl⟩
  have hr:=hid ho;have he:=hid (hX.out.keep hQ);have Hv:=hid hQ;obtain⟨la,lc,hK⟩:=Ze he.out.live;obtain⟨ln,hL⟩:∃ ln,mm.live.length=ln:=⟨_,rfl⟩
  have HD:ln≤140000:=by rw[←hL,ho.2.1];omega
  rw[hL]at hK;have Hc:=hid hL;have hC:=hid hK;have hf:HeapIs w5 mb _ _:=he.out.made;have c5:w5.cell? ⟨mb,5,none⟩=some (.slice la ln lc):=by rw[←hK];exact hf.cell 5
  have HI:=hf.lt;have HL:=hf.frozen;obtain⟨mn,hJ⟩:∃ mn,(fmakes x).length=mn:=⟨_,rfl⟩
  rw[hJ]at hv;subst hv;have HC:mn≤2:=by rw[←hJ];exact VZ x
  have h0:=hid hJ;clear hT hQ hS hL hK hf hJ ho;go_wp2_with (refine Zl (base:=0) .i64 rfl _ _ 22 rfl 3 (.int .i64 0) 8 underlying22 Tryz.info3 rfl zaJ (.slice la ln lc) _ mm.live (fmakes x) rfl rfl (by have:=he.out.live;rwa [hC.out]at this) Hx.out (by rw[Hc.out,h0.out];omega) (Nat.zero_le _) ?_;intro v6 w6 hm hP hI;obtain⟨a6,c6,h5⟩:=Ze hm;rw[show (mm.live++fmakes x).length=ln+mn from by rw[List.length_append,Hc.out,h0.out]]at h5;subst h5;have hN:HeapIs w6 mb _ _:=HeapIs.turn (show HeapIs w5 mb _ _ from he.out.made) hP (by rw[←hC.out];exact he.out.mb_live);have k5:w6.cell? ⟨mb,5,none⟩=some (.slice la ln lc):=(by rw[←hC.out];exact hN.cell 5);have kl:=hN.lt;have kf:=hN.frozen;have h3:=hid hm;have Ht:=hid hP;have h4:=hid hI;clear hN hm hP hI)
  go_end0
  have hD:=he.out.setLive (more:=fmakes x) h3.out (by rw[hC.out];exact Ht.out) (by rw[hC.out];exact h4.out) (by rw[hr.out.2.2];exact Js HG.out);refine⟨{ mm with live:=mm.live++fmakes x,livev:=.slice a6 (ln+mn) c6 },⟨rfl,hr.out.2.2⟩,hD.1,?_⟩;exact (Mv.keep hZ.out Hv.out).setLive hD.2.1 hD.2.2 (by rw[List.length_append,hr.out.2.1,h0.out];omega)
 all_goals
  intro p vs w2 HH HJ ht ha hk;revert hk;refine zs1 ?_;intro hk
 iterate 2
  iterate 4
   ·exact kw
  ·have hc:w2.cell? ⟨mb,3,none⟩=some (.slice (some ⟨bb,0,none⟩) n n):=HeapIs.cell (show HeapIs w2 mb _ _ from ha.1.made) 3;have hl:=HeapIs.lt (show HeapIs w2 mb _ _ from ha.1.made);exact kw
  ·exact kw
 iterate 2
  ·exact kw
 ·have hc:w2.cell? ⟨bb,b*6+1,none⟩=some (.slice ia il ic):=(ha.1.blocks.cell (b*6+1)).trans Hf.out;have hl:=ha.1.blocks.lt;exact kw
 ·have hy:=ha.1.box;clear hk;refine wpList_load_row rfl _ _ rfl w.heap.size rfl 180 _ (0,0) _ hy underlying180 rfl zaF ?_;exact kw
 ·have Hl:¬ (Value.slice ia il ic).ownBlock=some w2.heap.size:=fun e=>by have:=Hz.out _ e;have:=ht.size;omega
  have hH:=(Since.refl w2).alloc (.cells (Z6 x).toArray 180);have HP:=zH (Zd8 w0 w mb bb n x m sv p _) (And.intro (ha.1.keep hH) (fun (e:p=0)=>(ha.2 e).trans hH))
  clear hk ha;unfold fiv;go_wp2
  exact⟨_,rfl,⟨_,rfl,HeapIs.new _ _ _,Hl⟩,hH,HP.out⟩
 ·obtain rfl:p=0:=zaK
  have hd:=ha.2 rfl;obtain⟨b1,Hb,Ha,Hr⟩:WF (fun q=>(Value.slice ia il ic).ownBlock=some q) x (vs 16) w2:=hk.2.1
  simp only[Hb];have HO:=hid (hY.out.keep hd);have hR:=hV.out.keep hd;have hA:=hid ha.1;have hz:=hid hd;clear hk ha hd Hb;refine ZC Z6 5 VC zaJ rfl _ _ 173 rfl 180 (.agg #[.int .i64 0,.int .i64 0,.int .i64 0,.slice none 0 0,.int .i32 0]) 56 underlying173 zaF rfl (.slice ia il ic) k.ins x b1 1 _ rfl rfl hR Ha (by unfold Z6;simp[Value.oneCell'];exact HB.out) (by rw[hF.out];unfold maxLen;omega) (by rw[hF.out];omega) (Nat.zero_le _) ?_;intro v' w3 hh hG hi;have HA:=zH (Wx w0 (.slice ia il ic) (k.ins++[x]) v' w3) ⟨w2,hz.out,hG,hi,hh⟩;have Hw:=hid (hA.out.turn hG Hy.out);have Hu:=hid hG;clear hh hG hi hR Ha Hr;go_wp2
  exact⟨_,rfl,HA.out,Hu.out,Hw.out,fun e=>absurd e zaJ⟩
end
structure MaV where
 m:Mach
 av:Value
def Yd (x:MaV):List Value:=[.int .i64 x.m.op,.int .i64 x.m.d,.int .i64 x.m.e,.int .i64 x.m.a,.int .i64 x.m.b,.int .i64 x.m.c,.int .i32 x.m.imm,x.av]
theorem J3 (x:MaV):(Yd x).length=8:=rfl
structure K7 where
 at_:Nat
 next:Int
 l:List MaV
 lv:Value
 base:Nat
def YM (kb:Nat) (m:K7) (q:Nat):Prop:=q=kb∨m.lv.ownBlock=some q
def ZT (C:Nat→Prop) (kb:Nat) (m:K7) (q:Nat):Prop:=YM kb m q∨C q
structure MGood (m:Mach):Prop where
 imm:In32 m.imm
 few:m.args.length≤4
 args:∀ a∈m.args,0≤a∧a<10000
 d:0≤m.d∧m.d<10000
 e:0≤m.e∧m.e<10000
 a:0≤m.a∧m.a<10000
 b:0≤m.b∧m.b<10000
 c:0≤m.c∧m.c<10000
 op:(m.op=1∨(m.op=3∧-32768≤m.imm∧m.imm≤32767)∨m.op=4∨(5≤m.op∧m.op≤17)∨(m.op=18∧-128≤m.imm∧m.imm≤127)∨(m.op=20∧0≤m.imm∧m.imm≤31)∨m.op=23∨((m.op=24∨m.op=26)∧0≤m.imm∧m.imm≤255)∨m.op=25∨m.op=27∨m.op=28∨m.op=29)
 none:m.op=28∨m.args=[]
structure K7Ok (C:Nat→Prop) (kb:Nat) (sv:Value) (l:List Int) (m:K7) (w:World):Prop where
 made:HeapIs w kb #[sv,.int .i64 m.at_,.int .i64 m.next,m.lv] 172
 src:Zd w sv l∧Stays (ZT C kb m) w sv
 row:OwnRow Yd 8 36 m.base w m.lv m.l
 arg:∀ x∈m.l,Zd w x.av x.m.args∧Stays (ZT C kb m) w x.av
 newer:∀ x∈m.l,∀ q,x.av.ownBlock=some q→m.base≤q
 low:m.base≤w.heap.size
 good:∀ x∈m.l,MGood x.m
 aside:∀ q,C q→q<w.heap.size∧¬ YM kb m q
structure Mv7 (kb:Nat) (w:World) (m:K7) (w':World) (m':K7) (a n i:Nat):Prop where
 turn:Zb (YM kb m) w w'
 new:∀ q,YM kb m' q→YM kb m q∨w.heap.size≤q
 at_:m'.at_≤m.at_+a
 next:m.next≤m'.next∧m'.next≤m.next+n
 len:m.l.length≤m'.l.length∧m'.l.length≤m.l.length+i
 base:m'.base=m.base
def Sm7 (k:Nat) (m:K7):Prop:=m.at_≤1000*k∧(0≤m.next∧m.next≤100*k)∧m.l.length≤1000*k
def K7Q (C:Nat→Prop) (kb:Nat) (sv:Value) (l:List Int) (w:World) (m:K7) (a n i:Nat) (R:K7→Ending→Prop) (e:Ending) (w':World):Prop:=
 ∃ m',R m' e∧K7Ok C kb sv l m' w'∧Mv7 kb w m w' m' a n i
section
variable {C C':Nat→Prop} {kb:Nat} {sv:Value} {l : List Int} {m m' m'':K7} {w w' w'':World} {a n i a' n' i':Nat}
theorem Mv7.refl (kb:Nat) (w:World) (m:K7):Mv7 kb w m w m 0 0 0:=⟨Zb.refl _ _,fun _ h=>.inl h,zaK,zaK,zaK,rfl⟩
theorem Jk {m1:K7} (e:m1=m') (h:Hid (Mv7 kb w m w' m' a n i)):Hid (Mv7 kb w m w' m1 a n i):=e ▸ h
theorem Mv7.trans (h:Mv7 kb w m w' m' a n i) (k:Mv7 kb w' m' w'' m'' a' n' i'):Mv7 kb w m w'' m'' (a+a') (n+n') (i+i'):=by
 have hz:=h.turn.size;have h1:Zb (fun q=>YM kb m q∨w.heap.size≤q) w w':=h.turn.mono fun _ _ h=>.inl h
 have h2:Zb (fun q=>YM kb m q∨w.heap.size≤q) w' w'':=k.turn.mono fun q _ hq=>h.new q hq
 refine⟨(h1.trans h2).mono fun q hq hs=>?_,fun q hq=>?_,by have:=h.at_;have:=k.at_;omega,by have:=h.next;have:=k.next;omega,by have:=h.len;have:=k.len;omega,k.base.trans h.base⟩
 ·exact kD
 ·exact jX
theorem Mv7.more (h:Mv7 kb w m w' m' a n i) (ha:a≤a':=by decide) (hn:n≤n':=by decide) (hi:i≤i':=by decide):Mv7 kb w m w' m' a' n' i':=
 ⟨h.turn,h.new,by have:=h.at_;omega,by have:=h.next;omega,by have:=h.len;omega,h.base⟩
theorem Mv7.since (s:Since w w') (h:Mv7 kb w' m w'' m'' a n i):Mv7 kb w m w'' m'' a n i:=
 ⟨(Zb.since s).trans h.turn,fun q hq=>by rcases h.new q hq with h1 | h1;exact .inl h1;exact .inr (Nat.le_trans s.size h1),h.at_,h.next,h.len,h.base⟩
theorem Mv7.keep (h:Mv7 kb w m w' m' a n i) (s:Since w' w''):Mv7 kb w m w'' m' a n i:=
 ⟨h.turn.trans (Zb.since s),h.new,h.at_,h.next,h.len,h.base⟩
theorem Mv7.beside {T : Nat→Prop} (h:Mv7 kb w m w' m' a n i) (t:Zb T w' w'') (hT:∀ q,T q→w.heap.size≤q):Mv7 kb w m w'' m' a n i:=by
 have h1:Zb (fun q=>YM kb m q∨w.heap.size≤q) w w':=h.turn.mono fun _ _ h=>.inl h
 have h2:Zb (fun q=>YM kb m q∨w.heap.size≤q) w' w'':=t.mono fun q _ hq=>.inr (hT q hq)
 refine⟨(h1.trans h2).mono fun q hq hs=>?_,h.new,h.at_,h.next,h.len,h.base⟩;exact kD
theorem Vm {kb:Nat} {m m':K7} {w : World} (h:∀ q,YM kb m' q→YM kb m q∨w.heap.size≤q):∀ q,ZT C kb m' q→ZT C kb m q∨w.heap.size≤q:=by
 exact jc
theorem K7Ok.ltOwn (h:K7Ok C kb sv l m w) {q : Nat} (hq:YM kb m q):q<w.heap.size:=by
 rcases hq with rfl|hq
 ·exact HeapIs.lt h.made
 ·exact ZR h.row hq
theorem K7Ok.ltOwnC (h:K7Ok C kb sv l m w) {q : Nat} (hq:ZT C kb m q):q<w.heap.size:=by
 rcases hq with hq|hq
 ·exact h.ltOwn hq
 ·exact (h.aside q hq).1
theorem K7Ok.keep (h:K7Ok C kb sv l m w) (s:Since w w'):K7Ok C kb sv l m w':=
 ⟨h.made.keep s,⟨h.src.1.keep s,h.src.2.keep s⟩,OwnRow.keep h.row s,fun x hx=>⟨(h.arg x hx).1.keep s,(h.arg x hx).2.keep s⟩,h.newer,Nat.le_trans h.low s.size,h.good,fun q hq=>⟨Nat.lt_of_lt_of_le (h.aside q hq).1 s.size,(h.aside q hq).2⟩⟩
theorem K7Ok.kb_row (h:K7Ok C kb sv l m w):¬ m.lv.ownBlock=some kb:=Zn (show w.ownsRow _ _ _ _ _ _ from h.row) h.made zaJ
theorem K7Ok.newStays (h:K7Ok C kb sv l m w) (o:Obj) (n c:Nat):Stays (ZT C kb m) (w.alloc o) (.slice (some ⟨w.heap.size,0,none⟩) n c):=fun q hq=>by
 cases hq
 exact⟨fun h1=>absurd (h.ltOwnC h1) (Nat.lt_irrefl _),by simp⟩
theorem K7Ok.swapC {T : Nat→Prop} (h:K7Ok C kb sv l m w) (t:Zb T w w') (hT:∀ q,q<w.heap.size→T q→C q) (hC:∀ q,C' q→(C q∨w.heap.size≤q)∧q<w'.heap.size):K7Ok C' kb sv l m w':=by
 have hz:=t.size;have hb:∀ q,q<w.heap.size→YM kb m q→¬ T q:=fun q hl ho ht=>(h.aside q (hT q hl ht)).2 ho
 have hS:∀ q,ZT C' kb m q→ZT C kb m q∨w.heap.size≤q:=by
  exact y6
 have ha:∀ {v : Value},Stays (ZT C kb m) w v→∀ q,v.ownBlock=some q→¬ T q:=fun hv q hq e=>(hv q hq).1 (.inr (hT q (hv q hq).2 e))
 refine⟨h.made.turn t (hb kb h.made.lt (.inl rfl)),⟨h.src.1.turn t (ha h.src.2),h.src.2.mono hS hz⟩,Zg h.row t fun q hq e=>hb q (ZR h.row hq) (.inr hq) e,fun x hx=>⟨(h.arg x hx).1.turn t (ha (h.arg x hx).2),(h.arg x hx).2.mono hS hz⟩,h.newer,Nat.le_trans h.low hz,h.good,fun q hq=>⟨(hC q hq).2,fun ho=>?_⟩⟩
 rcases (hC q hq).1 with h1|h1
 ·exact (h.aside q h1).2 ho
 ·have:=h.ltOwn ho;omega
theorem K7Ok.box {at':Nat} {next':Int} (h:K7Ok C kb sv l m w) (hm:HeapIs w' kb #[sv,.int .i64 at',.int .i64 next',m.lv] 172) (t:Zb (fun q=>q=kb) w w'):K7Ok C kb sv l { m with at_:=at',next:=next' } w':=by
 have hz:=t.size;have hT:∀ {v : Value},Stays (ZT C kb m) w v→∀ q,v.ownBlock=some q→¬ q=kb:=fun hv q hq e=>(hv q hq).1 (.inl (.inl e))
 exact⟨hm,⟨h.src.1.turn t (hT h.src.2),h.src.2.mono (fun q hq=>.inl hq) hz⟩,Zg h.row t fun q hq e=>h.kb_row (e ▸ hq),fun x hx=>⟨(h.arg x hx).1.turn t (hT (h.arg x hx).2),(h.arg x hx).2.mono (fun q hq=>.inl hq) hz⟩,h.newer,Nat.le_trans h.low hz,h.good,fun q hq=>⟨Nat.lt_of_lt_of_le (h.aside q hq).1 hz,(h.aside q hq).2⟩⟩
theorem Mv7.box {at':Nat} {next':Int} (t:Zb (fun q=>q=kb) w w') (ha:at'≤m.at_+a) (hn:m.next≤next'∧next'≤m.next+n):Mv7 kb w m w' { m with at_:=at',next:=next' } a n 0:=
 ⟨t.mono fun q _ h=>.inl h,fun q hq=>.inl hq,ha,hn,⟨Nat.le_refl _,Nat.le_refl _⟩,rfl⟩
theorem K7Ok.put (h:K7Ok C kb sv l m w) {x : MaV} {v':Value} {w1 w2:World} (ha:OwnRow Yd 8 36 m.base w1 v' (m.l++[x])) (t:Zb (fun q=>m.lv.ownBlock=some q) w w1) (hb:Yb w m.lv v')
  (t2:Zb (fun q=>q=kb) w1 w2) (hm:HeapIs w2 kb #[sv,.int .i64 m.at_,.int .i64 m.next,v'] 172) (hx:Zd w x.av x.m.args∧Stays (ZT C kb m) w x.av) (hc:∀ q,x.av.ownBlock=some q→m.base≤q) (hg:MGood x.m) (hd:¬ v'.ownBlock=some kb) :
  K7Ok C kb sv l { m with l:=m.l++[x],lv:=v' } w2∧Mv7 kb w m w2 { m with l:=m.l++[x],lv:=v' } 0 0 1:=by
 have ht:Zb (YM kb m) w w2:=(t.mono fun q _ hq=>.inr hq).trans (t2.mono fun q _ hq=>.inl hq);have hS:∀ q,YM kb { m with l:=m.l++[x],lv:=v' } q→YM kb m q∨w.heap.size≤q:=by
  rintro q (hq|hq)
  ·exact .inl (.inl hq)
  ·rcases hb q hq with h1|h1
   ·exact .inl (.inr h1)
   ·exact .inr h1
 have hT:∀ {v : Value},Stays (ZT C kb m) w v→∀ q,v.ownBlock=some q→¬ YM kb m q:=fun hv q hq e=>(hv q hq).1 (.inl e)
 refine⟨⟨hm,⟨h.src.1.turn ht (hT h.src.2),h.src.2.mono (Vm hS) ht.size⟩,Zg (show w1.ownsRow _ _ _ _ _ _ from ha) t2 fun q hq e=>hd (e ▸ hq),fun y hy=>?_,fun y hy=>?_,Nat.le_trans h.low ht.size,fun y hy=>?_,fun q hq=>⟨Nat.lt_of_lt_of_le (h.aside q hq).1 ht.size,fun ho=>?_⟩⟩,ht,hS,Nat.le_refl _,⟨Int.le_refl _,by show m.next≤m.next+0;omega⟩,by simp,rfl⟩
 ·rcases List.mem_append.1 hy with hy|hy
  ·exact⟨(h.arg y hy).1.turn ht (hT (h.arg y hy).2),(h.arg y hy).2.mono (Vm hS) ht.size⟩
  ·rw[List.mem_singleton.1 hy];exact⟨hx.1.turn ht (hT hx.2),hx.2.mono (Vm hS) ht.size⟩
 ·rcases List.mem_append.1 hy with hy|hy
  ·exact h.newer y hy
  ·rw[List.mem_singleton.1 hy];exact hc
 ·rcases List.mem_append.1 hy with hy|hy
  ·exact h.good y hy
  ·rw[List.mem_singleton.1 hy];exact hg
 ·exact jE
theorem Sm7.mono {k k':Nat} (h:Sm7 k m) (hk:k≤k'):Sm7 k' m:=by
 obtain⟨h1,h2,h3⟩:=h;exact⟨zaK,zaK,zaK⟩
theorem Sm7.mv {k a n i:Nat} (h:Sm7 k m) (v:Mv7 kb w m w' m' a n i) (ha:a≤1000:=by decide) (hn:n≤100:=by decide) (hi:i≤1000:=by decide):Sm7 (k+1) m':=by
 obtain⟨h1,h2,h3⟩:=h;have:=v.at_;have:=v.next;have:=v.len;exact⟨zaK,zaK,zaK⟩
theorem Mv7.heap {q : Nat} {cs:Array Value} {T : TypeId} (h:Mv7 kb w m w' m' a n i) (hb:HeapIs w q cs T) (hq:¬ YM kb m q):HeapIs w' q cs T:=hb.turn h.turn hq
theorem Mv7.nums {k : IntKind} {v : Value} {xs:List Int} (h:Mv7 kb w m w' m' a n i) (hx:Zy k w v xs) (hv:Stays (ZT C kb m) w v):Zy k w' v xs:=hx.turn h.turn fun q hq e=>(hv q hq).1 (.inl e)
theorem Mv7.stays {v : Value} (h:Mv7 kb w m w' m' a n i) (hv:Stays (ZT C kb m) w v):Stays (ZT C kb m') w' v:=hv.mono (Vm h.new) h.turn.size
end
def K7At (w:World) (mb:Nat) (sv:Value) (at_:Nat) (rest:List Value):Prop:=HeapIs w mb (sv::.int .i64 at_::rest).toArray 172
theorem K7At.keep {w w':World} {mb:Nat} {sv:Value} {at_:Nat} {rest:List Value} (h:K7At w mb sv at_ rest) (s:Since w w'):K7At w' mb sv at_ rest:=HeapIs.keep h s
def Zfg (w:World) (mb:Nat) (sv:Value) (at_ k:Nat) (rest:List Value) (r:Value) (e:Ending) (w':World):Prop:=e=.returned r∧K7At w' mb sv (at_+k) rest∧Zb (fun q=>q=mb) w w'∧w'.heap.size=w.heap.size
theorem K7At.next {w : World} {mb:Nat} {sv:Value} {at_:Nat} {rest:List Value} (h:K7At w mb sv at_ rest):K7At (w.setCell ⟨mb,1,none⟩ (.int .i64 (at_+1))) mb sv (at_+1) rest:=by
 have h1:=HeapIs.set (show HeapIs w mb _ _ from h) 1 (.int .i64 (at_+1));simpa [K7At]using h1
theorem Zcv (sv:Value) (l:List Int) (w:World) (mb at_:Nat) (rest:List Value) (n:Int) (hm:K7At w mb sv at_ rest) (hs:Zd w sv l) (hi:at_≤1000000) (hn:1≤n∧n≤1048576):Calls prog 140 #[.pointer (some ⟨mb,0,none⟩),.int .i64 n] w (Zfg w mb sv at_ 1 rest (.int .i64 (takeF l at_ n))):=by
 obtain⟨sa,sc,rfl⟩:=Zc hs;have he:=hs.len;unfold maxLen at he;obtain⟨x,hx⟩:∃ x,l.getD at_ 0=x:=⟨_,rfl⟩
 unfold takeF;rw[hx];have hh:=Int.tmod_lt_of_pos x (show 0<n by omega);have hg : -n<x.tmod n:=Int.lt_tmod_of_pos x zaK;have HX:=hid hx;have HM:=hid hm;have HS:=hid hs;have c0:w.cell? ⟨mb,0,none⟩=some (.slice sa l.length sc):=hm.cell 0;have c1:w.cell? ⟨mb,1,none⟩=some (.int .i64 at_):=hm.cell 1;have hl:=hm.lt;have hf:=hm.frozen;clear hx hm hs;by_cases hb:at_<l.length
 ·obtain⟨_,hd⟩:=Zr HS.out;obtain⟨B,off,rfl,hB,ha⟩:=hd (by intro e;rw[e]at hb;simp at hb);have hc:l[at_]? = some x:=by rw[←HX.out,List.getD_eq_getElem?_getD,List.getElem?_eq_getElem hb];rfl
  have c2:=ha at_ x hc;clear ha hd hc;go_enter func140,ntmps140
  exact zI
 ·obtain rfl:x=0:=by rw[←HX.out,List.getD_eq_getElem?_getD,List.getElem?_eq_none zaK];rfl
  rw[show ((0:Int).tmod n+n) % n=0 from by simp];go_enter func140,ntmps140
  exact zY
section
variable {C : Nat→Prop} {kb:Nat} {sv:Value} {l : List Int} {m : K7} {w : World}
theorem W6 (h:K7Ok C kb sv l m w) (n:Int) (hn:1≤n∧n≤1048576) (hs:m.at_≤100000) :
  Calls prog 140 #[.pointer (some ⟨kb,0,none⟩),.int .i64 n] w (K7Q C kb sv l w m 1 0 0 fun m' e=>∃ x:Int,e=.returned (.int .i64 x)∧(0≤x∧x<n)∧m'={ m with at_:=m.at_+1 }):=by
 refine (Zcv sv l w kb m.at_ [.int .i64 m.next,m.lv] n h.made h.src.1 zaK hn).mono ?_;rintro e w' ⟨rfl,hm,t,hz⟩;exact⟨_,⟨_,rfl,XN _ _ zaK,rfl⟩,h.box hm t,Mv7.box t (Nat.le_refl _) zaK⟩
theorem Xb (h:K7Ok C kb sv l m w) (hs:0≤m.next∧m.next≤9000) :
  Calls prog 141 #[.pointer (some ⟨kb,0,none⟩)] w (K7Q C kb sv l w m 0 1 0 fun m' e=>e=.returned (.int .i64 m.next)∧m'={ m with next:=m.next+1 }):=by
 have H:=hid h;have c2:w.cell? ⟨kb,2,none⟩=some (.int .i64 m.next):=h.made.cell 2;have hl:=h.made.lt;have hc:=h.made.frozen;obtain⟨nx,ha⟩:∃ x,m.next=x:=⟨_,rfl⟩
 rw[ha]at c2 hs;have hb:=hid ha;have HM:=zH (HeapIs (w.setCell ⟨kb,2,none⟩ (.int .i64 (nx+1))) kb #[sv,.int .i64 m.at_,.int .i64 (nx+1),m.lv] 172) (h.made.set 2 (.int .i64 (nx+1)));clear h ha;go_enter func141,ntmps141
 go_wp2
 go_ret
 have t:Zb (fun q=>q=kb) w (w.setCell ⟨kb,2,none⟩ (.int .i64 (nx+1))):=(Zb.refl (fun q=>q=kb) w).setCell (p:=⟨kb,2,none⟩) rfl _;exact⟨{ m with next:=nx+1 },⟨by rw[hb.out];rfl,by rw[hb.out]⟩,H.out.box HM.out t,Mv7.box t (Nat.le_refl _) (by rw[hb.out];omega)⟩
end
end Go.Proofs.YtimpddecdodddaaGreat
