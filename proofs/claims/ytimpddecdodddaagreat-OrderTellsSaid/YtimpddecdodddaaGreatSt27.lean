import Derived.Test.YtimpddecdodddaaGreatSt22
namespace Go.Proofs.YtimpddecdodddaaGreat
open Go.Proofs.Tryz Go.RowKit Go.Lib
set_option linter.unusedVariables false
set_option maxHeartbeats 4000000
set_option maxRecDepth 100000
theorem yz {P:Prop} (h:P:=by
 go_wp2_with fail
 go_roundw
 case rel=>exact⟨b+1,a2,rows,mt,by omega,by go_num,HN.out,by omega,ho.out⟩
 case measure=>simp[intOf];omega):P:=h
theorem yI {P:Prop} (h:P:=by
 go_roundw
 case rel=>exact⟨t+1,_,_,_,by omega,by go_num,hy.out,by omega,ho.out.set hi.out⟩
 case measure=>simp[intOf];omega):P:=h
theorem kW {P:Prop} (h:P:=by have h9:=hc.out.own _ (List.mem_of_getElem? hi.out);exact h9):P:=h
theorem zaa {P:Prop} (h:P:=by have:=hc.out.mv.turn.size;simp;omega):P:=h
def TargetsQ (C:Nat→Prop) (mb:Nat) (bv sv:Value) (l:List Int) (w:World) (m:Zm) (n:Nat) (e:Ending) (w':World):Prop:=
 ∃ tb rows m' a,e=.returned (.slice (some ⟨tb,0,none⟩) n n)∧TgL C mb bv sv l w m tb n rows a 26 m' w'∧a≤100∧XK rows n
section
variable {C : Nat→Prop} {mb:Nat} {bv sv:Value} {l : List Int} {m mt:Zm} {w wr:World} {tb n a few:Nat} {rows:List (Value × List Int)}
theorem Zej {w1:World} {n : Nat} (h:MkOk C mb bv sv l m w) (hd:w1.ownsRow w.heap.size 22 1 (.slice (some ⟨w.heap.size,0,none⟩) n n) n (madeCells (Value.slice none 0 0).cells (n*1)).toList) (hc:w.grownBy w1 none):TgL C mb bv sv l w m w.heap.size n (List.replicate n (.slice none 0 0,[])) 0 0 m w1:=by
 obtain⟨hs,hb⟩:=XY rfl zaJ hd hc;have e:(List.replicate n (Value.slice none 0 0).cells.toList).flatten=(List.replicate n ((.slice none 0 0,[]):Value × List Int)).map (·.1):=by
  rw[List.map_replicate];exact XR n _
 rw[e]at hb;have ha:∀ r∈List.replicate n ((.slice none 0 0,[]):Value × List Int),r=(.slice none 0 0,[]):=fun r hr=>(List.mem_replicate.1 hr).2
 refine⟨h.swapC (Zb.since (S:=fun _=>False) hs) (fun q _ e=>e.elim) ?_,(Mv.refl _ _ _ _).keep hs,hb,Nat.le_refl _,fun r hr=>?_,fun i j r s hi hj he q hq=>?_,by simp,fun r hr=>?_,fun r hr=>?_⟩
 ·rintro q (hq|hq|⟨r,hr,hq⟩)
  ·exact⟨.inl hq,Nat.lt_of_lt_of_le (h.aside q hq).1 hs.size⟩
  ·exact⟨.inr zaK,by rw[hq];exact hb.lt⟩
  ·rw[ha r hr]at hq;cases hq
 ·rw[ha r hr];exact W5 _ _ _ _
 ·rw[ha r (List.mem_of_getElem? hi)]at hq;cases hq
 ·rw[ha r hr];exact Nat.zero_le _
 ·rw[ha r hr];intro x hx;cases hx
theorem TgL.cell (h:TgL C mb bv sv l w m tb n rows a few mt wr) {p : Nat} {v : Value} {xs:List Int} (hp:rows[p]? = some (v,xs)):wr.cell? ⟨tb,p,none⟩=some v:=by
 rw[h.box.cell,List.getElem?_toArray,List.getElem?_map,hp];rfl
theorem TgL.at (h:TgL C mb bv sv l w m tb n rows a few mt wr) {p : Nat} (hp:p<n):∃ va vc xs,rows[p]? = some (.slice va xs.length vc,xs)∧xs.length≤few:=by
 obtain⟨⟨v,xs⟩,hr⟩:∃ r,rows[p]? = some r:=⟨_,List.getElem?_eq_getElem (by rw[h.len];exact hp)⟩
 have hm:=List.mem_of_getElem? hr;obtain⟨va,vc,hv⟩:=Ze (h.own _ hm);have hv:v=.slice va xs.length vc:=hv;subst hv;exact⟨va,vc,xs,hr,h.few _ hm⟩
theorem TgL.more {few':Nat} (h:TgL C mb bv sv l w m tb n rows a few mt wr) (hf:few≤few'):TgL C mb bv sv l w m tb n rows a few' mt wr:=
 ⟨h.ok,h.mv,h.box,h.low,h.own,h.apart,h.len,fun r hr=>Nat.le_trans (h.few r hr) hf,h.inr⟩
theorem ZbY (h:MkOk C mb bv sv l m w) (hs:m.at_≤1000) (n:Nat) (hn:1≤n∧n≤9) :
  Calls prog 106 #[.pointer (some ⟨mb,0,none⟩),.int .i64 n] w (TargetsQ C mb bv sv l w m n):=by
 have hJ:(prog.info? 22).map (fun i=>(i.zero,i.size,i.bytes))=some (some (.slice none 0 0),1,24):=by kernel_rfl
 obtain⟨ti,hR,hO,hN,hM⟩:=info_parts hJ;obtain⟨Hj,Hi⟩:=hn;have H:=hid h;have HS:=hid hs;have TI:=hid (And.intro hR (And.intro hO (And.intro hN hM)));clear h hJ hs hR hO hN hM;go_enter func106,ntmps106
 go_wp2_with (refine wpList_make_full _ rfl (.tmp 12) (.tmp 12) 148 rfl w.heap.size 22 ti (.slice none 0 0) 1 underlying148 TI.out.1 TI.out.2.1 TI.out.2.2.1 .i64 .i64 _ _ n rfl rfl rfl rfl zak zaq (Nat.le_refl _) ?_;intro w1 hH hE)
 obtain⟨tb,hG⟩:∃ t,t=w.heap.size:=⟨_,rfl⟩
 have hX:=hid (Zej H.out hH hE);rw[←hG]at hX;rw[←hG];clear hH hE hG
 go_loopw [6] (fun i wr=>∃ (b a:Nat) (rows:List (Value × List Int)) (mt:Zm),(1≤b∧b≤n)∧i=.int .i64 b∧TgL C mb bv sv l w m tb n rows a (b-1) mt wr∧a≤2*b∧XK rows b) (fun i _=>n-(intOf i).toNat)
 case atStart=>exact⟨1,0,_,_,zaK,rfl,hX.out,zaK,fun c h1 h2=>by omega⟩
 case round =>
  obtain⟨b,a,rows,mt,⟨h8,hW⟩,rfl,hT,ha,hu⟩:=hrel;have HT:=hid hT;have ho:=hid hu;have hz:=zH (mt.at_≤100000) (by have:=hT.mv.at_;have:=HS.out;omega);clear hT hu;by_cases hU:b<n
  ·go_wp2_with fail
   refine (ZF HT.out.ok 3 zaJ hz.out).mono ?_;rintro e wa ⟨ma,⟨x,rfl,⟨h5,h4⟩,hB⟩,ht,mva⟩;have hf:=hid (HT.out.step ht mva);clear ht mva hB;by_cases hx:x=0
   ·subst hx;go_wp2_with fail
    refine (ZF hf.out.ok (b:Int) zaK (by have:=hf.out.mv.at_;have:=HS.out;omega)).mono ?_;rintro e wb ⟨mb2,⟨y,rfl,⟨h3,h0⟩,hI⟩,hA,mvb⟩;have hc:=hid (hf.out.step hA mvb);clear hA mvb hI;obtain⟨p,rfl⟩:∃ p:Nat,y=p:=⟨y.toNat,zaK⟩
    obtain⟨vap,vcp,xsp,hr,hK⟩:=hc.out.at (p:=p) zaK;obtain⟨xlp,hq⟩:∃ x,xsp.length=x:=⟨_,rfl⟩
    rw[hq]at hr hK;have kcp:=hc.out.cell hr;have klp:=hc.out.box.lt;have hp:=hid hr;have hw:=hid hq;clear hr hq;go_wp2_with (refine Zl (base:=w.heap.size) .i64 rfl _ _ 22 rfl 3 (.int .i64 0) 8 underlying22 Tryz.info3 rfl zaJ (.slice vap xlp vcp) _ xsp [(b:Int)] rfl rfl (Zv (by have h9:=hc.out.own _ (List.mem_of_getElem? hp.out);exact h9) ((Since.refl _).alloc _)) (Ym _ _ _) (by rw[hw.out];simp;omega) zaa ?_;intro v6 w6 hb hg hd;obtain⟨a6,c6,hl⟩:=Ze hb;rw[show (xsp++[(b:Int)]).length=xlp+1 from by rw[List.length_append,hw.out];rfl]at hl;subst hl;have he:=(hc.out.box.keep ((Since.refl _).alloc _)).turn hg (hc.out.notTb (List.mem_of_getElem? hp.out));have hh:=he.cell p;rw[List.getElem?_toArray,List.getElem?_map,hp.out]at hh;have hh:w6.cell? ⟨tb,p,none⟩=some (.slice vap xlp vcp):=hh;have hC:=he.lt;have hD:=he.frozen;have hL:=hid (hc.out.add hp.out hb ((Since.refl _).alloc _) hg hd zaK);clear he hb hg hd kcp klp)
    go_roundw
    case rel=>exact⟨b+1,_,_,_,zaK,by go_num,(show b-1+1=b+1-1 from by omega) ▸ hL.out,zaK,ho.out.add hp.out zaK⟩
    case measure=>simp[intOf];omega
   ·have hP:(x==0)=false:=by simpa using hx
    clear hx;obtain⟨p,rfl⟩:∃ p,b=p+1:=⟨b-1,zaK⟩
    obtain⟨vap,vcp,xsp,hr,hK⟩:=hf.out.at (p:=p) zaK;obtain⟨xlp,hq⟩:∃ x,xsp.length=x:=⟨_,rfl⟩
    rw[hq]at hr hK;have kcp:=hf.out.cell hr;have klp:=hf.out.box.lt;have hp:=hid hr;have hw:=hid hq;clear hr hq;go_wp2_with (refine Zl (base:=w.heap.size) .i64 rfl _ _ 22 rfl 3 (.int .i64 0) 8 underlying22 Tryz.info3 rfl zaJ (.slice vap xlp vcp) _ xsp [((p+1:Nat):Int)] rfl rfl (Zv (by have h9:=hf.out.own _ (List.mem_of_getElem? hp.out);exact h9) ((Since.refl _).alloc _)) (Ym _ _ _) (by rw[hw.out];simp;omega) (by have:=hf.out.mv.turn.size;simp;omega) ?_;intro v6 w6 hb hg hd;obtain⟨a6,c6,hl⟩:=Ze hb;rw[show (xsp++[((p+1:Nat):Int)]).length=xlp+1 from by rw[List.length_append,hw.out];rfl]at hl;subst hl;have he:=(hf.out.box.keep ((Since.refl _).alloc _)).turn hg (hf.out.notTb (List.mem_of_getElem? hp.out));have hh:=he.cell p;rw[List.getElem?_toArray,List.getElem?_map,hp.out]at hh;have hh:w6.cell? ⟨tb,p,none⟩=some (.slice vap xlp vcp):=hh;have hC:=he.lt;have hD:=he.frozen;have hL:=hid (hf.out.add hp.out hb ((Since.refl _).alloc _) hg hd zaK);clear he hb hg hd kcp klp)
    go_roundw
    case rel=>exact⟨p+1+1,_,_,_,zaK,by go_num,(show p+1-1+1=p+1+1-1 from by omega) ▸ hL.out,zaK,ho.out.add hp.out zaK⟩
    case measure=>simp[intOf];omega
  ·obtain rfl:n=b:=zaK
   have hY:=zH (TgL C mb bv sv l w m tb n rows a (8+2*0) mt wr) (HT.out.more zaK);clear h8 hW hU;go_wp2_with fail
   go_loopw [8] (fun i wr=>∃ (b a:Nat) (rows:List (Value × List Int)) (mt:Zm),b≤n∧i=.int .i64 b∧TgL C mb bv sv l w m tb n rows a (8+2*b) mt wr∧a≤18+5*b∧XK rows n) (fun i _=>n-(intOf i).toNat)
   case atStart=>exact⟨0,a,rows,mt,Nat.zero_le _,rfl,hY.out,zaK,ho.out⟩
   case round =>
    clear ha HT ho hz hY;obtain⟨b,a,rows,mt,hW,rfl,hT,ha,hu⟩:=hrel;have HT:=hid hT;have ho:=hid hu;have hz:=zH (mt.at_≤99000) (by have:=hT.mv.at_;have:=HS.out;omega);clear hT hu;by_cases hU:b<n
    ·go_wp2_with fail
     refine (ZF HT.out.ok 6 zaJ (by have:=hz.out;omega)).mono ?_;rintro e wa ⟨ma,⟨k,rfl,⟨Hm,Hl⟩,hB⟩,ht,mva⟩;have hf:=hid (HT.out.step ht mva);clear ht mva hB;obtain⟨wo,h6⟩:∃ x,x=wa:=⟨_,rfl⟩
     subst h6;go_wp2_with fail
     go_loopw [10] (fun i wr=>∃ (t a2:Nat) (rows:List (Value × List Int)) (mt:Zm),t≤2∧i=.int .i64 t∧TgL C mb bv sv l w m tb n rows a2 (8+2*b+t) mt wr∧a2≤18+5*b+1+2*t∧XK rows n) (fun i _=>3-(intOf i).toNat)
     case atStart=>exact⟨0,a+1,rows,_,zaK,rfl,hf.out,zaK,ho.out⟩
     case round =>
      clear HT ho hz hf ha;obtain⟨t,a2,rows,mt,Hh,rfl,hT,ha,hu⟩:=hrel;have HT:=hid hT;have ho:=hid hu;have hz:=zH (mt.at_≤99000) (by have:=hT.mv.at_;have:=HS.out;omega);clear hT hu;by_cases hV:(t:Int)<k-3∧1<n
      ·obtain⟨Ho,Hn⟩:=hV;go_wp2_with fail
       refine (ZF HT.out.ok ((n:Int)-1) zaK (by have:=hz.out;omega)).mono ?_;rintro e wa ⟨ma,⟨x,rfl,⟨h5,h4⟩,hB⟩,ht,mva⟩;have hf:=hid (HT.out.step ht mva);clear ht mva hB;by_cases hQ:1+x≤(b:Int)
       ·go_wp2_with fail
        refine (ZF hf.out.ok 2 zaJ (by have:=hf.out.mv.at_;have:=HS.out;omega)).mono ?_;rintro e wb ⟨mb2,⟨y,rfl,⟨h3,h0⟩,hI⟩,hA,mvb⟩;have hc:=hid (hf.out.step hA mvb);clear hA mvb hI;by_cases hF:y=0
        ·subst hF;by_cases Hk:(n:Int)-1<(b:Int)+1
         ·have He:1<(n:Int):=zaK
          have h7:min ((b:Int)+1) ((n:Int)-1)=(n:Int)-1:=zaK
          obtain⟨vaq,vcq,xsq,hk,hv⟩:=hc.out.at (p:=b) zaK;obtain⟨xlq,hj⟩:∃ x,xsq.length=x:=⟨_,rfl⟩
          rw[hj]at hk hv;have kcq:=hc.out.cell hk;have klq:=hc.out.box.lt;have hi:=hid hk;have hm:=hid hj;clear hk hj;go_wp2_with (refine Zl (base:=w.heap.size) .i64 rfl _ _ 22 rfl 3 (.int .i64 0) 8 underlying22 Tryz.info3 rfl zaJ (.slice vaq xlq vcq) _ xsq [((n:Int)-1)] rfl rfl (Zv kW ((Since.refl _).alloc _)) (Ym _ _ _) (by rw[hm.out];simp;omega) zaa ?_;intro v6 w6 hb hg hd;obtain⟨a6,c6,hl⟩:=Ze hb;rw[show (xsq++[((n:Int)-1)]).length=xlq+1 from by rw[List.length_append,hm.out];rfl]at hl;subst hl;have he:=(hc.out.box.keep ((Since.refl _).alloc _)).turn hg (hc.out.notTb (List.mem_of_getElem? hi.out));have hh:=he.cell b;rw[List.getElem?_toArray,List.getElem?_map,hi.out]at hh;have hh:w6.cell? ⟨tb,b,none⟩=some (.slice vaq xlq vcq):=hh;have hC:=he.lt;have hD:=he.frozen;have hy:=hid (hc.out.add hi.out hb ((Since.refl _).alloc _) hg hd zaK);clear he hb hg hd kcq klq)
          exact yI
         ·have Hc:(b:Int)+1≤(n:Int)-1:=zaK
          have h7:min ((b:Int)+1) ((n:Int)-1)=(b:Int)+1:=zaK
          obtain⟨vaq,vcq,xsq,hk,hv⟩:=hc.out.at (p:=b) zaK;obtain⟨xlq,hj⟩:∃ x,xsq.length=x:=⟨_,rfl⟩
          rw[hj]at hk hv;have kcq:=hc.out.cell hk;have klq:=hc.out.box.lt;have hi:=hid hk;have hm:=hid hj;clear hk hj;go_wp2_with (refine Zl (base:=w.heap.size) .i64 rfl _ _ 22 rfl 3 (.int .i64 0) 8 underlying22 Tryz.info3 rfl zaJ (.slice vaq xlq vcq) _ xsq [((b:Int)+1)] rfl rfl (Zv kW ((Since.refl _).alloc _)) (Ym _ _ _) (by rw[hm.out];simp;omega) zaa ?_;intro v6 w6 hb hg hd;obtain⟨a6,c6,hl⟩:=Ze hb;rw[show (xsq++[((b:Int)+1)]).length=xlq+1 from by rw[List.length_append,hm.out];rfl]at hl;subst hl;have he:=(hc.out.box.keep ((Since.refl _).alloc _)).turn hg (hc.out.notTb (List.mem_of_getElem? hi.out));have hh:=he.cell b;rw[List.getElem?_toArray,List.getElem?_map,hi.out]at hh;have hh:w6.cell? ⟨tb,b,none⟩=some (.slice vaq xlq vcq):=hh;have hC:=he.lt;have hD:=he.frozen;have hy:=hid (hc.out.add hi.out hb ((Since.refl _).alloc _) hg hd zaK);clear he hb hg hd kcq klq)
          exact yI
        ·have Hf:(y==0)=false:=by simpa using hF
         clear hF;obtain⟨vaq,vcq,xsq,hk,hv⟩:=hc.out.at (p:=b) zaK;obtain⟨xlq,hj⟩:∃ x,xsq.length=x:=⟨_,rfl⟩
         rw[hj]at hk hv;have kcq:=hc.out.cell hk;have klq:=hc.out.box.lt;have hi:=hid hk;have hm:=hid hj;clear hk hj;go_wp2_with (refine Zl (base:=w.heap.size) .i64 rfl _ _ 22 rfl 3 (.int .i64 0) 8 underlying22 Tryz.info3 rfl zaJ (.slice vaq xlq vcq) _ xsq [(1+x)] rfl rfl (Zv kW ((Since.refl _).alloc _)) (Ym _ _ _) (by rw[hm.out];simp;omega) zaa ?_;intro v6 w6 hb hg hd;obtain⟨a6,c6,hl⟩:=Ze hb;rw[show (xsq++[(1+x)]).length=xlq+1 from by rw[List.length_append,hm.out];rfl]at hl;subst hl;have he:=(hc.out.box.keep ((Since.refl _).alloc _)).turn hg (hc.out.notTb (List.mem_of_getElem? hi.out));have hh:=he.cell b;rw[List.getElem?_toArray,List.getElem?_map,hi.out]at hh;have hh:w6.cell? ⟨tb,b,none⟩=some (.slice vaq xlq vcq):=hh;have hC:=he.lt;have hD:=he.frozen;have hy:=hid (hc.out.add hi.out hb ((Since.refl _).alloc _) hg hd zaK);clear he hb hg hd kcq klq)
         exact yI
       ·have hP:¬ (1+x≤(b:Int)):=hQ;have Hg:(b:Int)<1+x:=zaK
        clear hQ hP;obtain⟨vaq,vcq,xsq,hk,hv⟩:=hf.out.at (p:=b) zaK;obtain⟨xlq,hj⟩:∃ x,xsq.length=x:=⟨_,rfl⟩
        rw[hj]at hk hv;have kcq:=hf.out.cell hk;have klq:=hf.out.box.lt;have hi:=hid hk;have hm:=hid hj;clear hk hj;go_wp2_with (refine Zl (base:=w.heap.size) .i64 rfl _ _ 22 rfl 3 (.int .i64 0) 8 underlying22 Tryz.info3 rfl zaJ (.slice vaq xlq vcq) _ xsq [(1+x)] rfl rfl (Zv (by have h9:=hf.out.own _ (List.mem_of_getElem? hi.out);exact h9) ((Since.refl _).alloc _)) (Ym _ _ _) (by rw[hm.out];simp;omega) (by have:=hf.out.mv.turn.size;simp;omega) ?_;intro v6 w6 hb hg hd;obtain⟨a6,c6,hl⟩:=Ze hb;rw[show (xsq++[(1+x)]).length=xlq+1 from by rw[List.length_append,hm.out];rfl]at hl;subst hl;have he:=(hf.out.box.keep ((Since.refl _).alloc _)).turn hg (hf.out.notTb (List.mem_of_getElem? hi.out));have hh:=he.cell b;rw[List.getElem?_toArray,List.getElem?_map,hi.out]at hh;have hh:w6.cell? ⟨tb,b,none⟩=some (.slice vaq xlq vcq):=hh;have hC:=he.lt;have hD:=he.frozen;have hy:=hid (hf.out.add hi.out hb ((Since.refl _).alloc _) hg hd zaK);clear he hb hg hd kcq klq)
        exact yI
      ·have hS:k-3≤(t:Int)∨(n:Int)≤1:=zaK
       have HN:=zH (TgL C mb bv sv l w m tb n rows a2 (8+2*(b+1)) mt wr) (HT.out.more zaK);clear hV;by_cases hZ:k-3≤(t:Int)
       ·clear hS;exact yz
       ·have Hb:(n:Int)≤1:=zaK
        have Ha:(t:Int)<k-3:=zaK
        clear hS hZ;exact yz
    ·obtain rfl:n=b:=zaK
     go_wp2
     go_ret
     exact⟨tb,rows,mt,a,rfl,HT.out.more zaK,zaK,ho.out⟩
end
abbrev TosIn (w:World) (v:Value) (bl:List Zt):Prop:=RowIn fbcells 6 (fun w b=>Zd w b.term.tov b.term.to) w v bl
theorem TosIn.keep {w w':World} {v : Value} {bl:List Zt} (h:TosIn w v bl) (s:Since w w'):TosIn w' v bl:=RowIn.keep (p:=fun w (b:Zt)=>Zd w b.term.tov b.term.to) (fun _ _ _ h s=>Zy.keep h s) h s
def Zfh (w:World) (R:List Int→Prop) (e:Ending) (w':World):Prop:=∃ v ps,e=.returned v∧w'.ownsRow w.heap.size 3 1 v ps.length (ps.map (Value.int .i64))∧Since w w'∧R ps
structure XW (w:World) (cs:Array Value) (T:TypeId) (v:Value) (xs:List Int) (wr:World):Prop where
 box:HeapIs wr w.heap.size cs T
 own:wr.ownsRow (w.heap.size+1) 3 1 v xs.length (xs.map (Value.int .i64))
 old:Since w wr
 size:w.heap.size+1≤wr.heap.size
theorem XW.new (w:World) (cs:Array Value) (T:TypeId):XW w cs T (.slice (some ⟨w.heap.size+1,0,none⟩) 0 0) [] ((w.alloc (.cells cs T)).alloc (.cells #[] 3)):=by
 have h2:=HeapIs.new (w.alloc (.cells cs T)) #[] 3;rw[show (w.alloc (.cells cs T)).heap.size=w.heap.size+1 from by simp]at h2;exact⟨(HeapIs.new w cs T).keep ((Since.refl _).alloc _),⟨rfl,.inr ⟨w.heap.size+1,0,#[],rfl,Nat.le_refl _,h2,Nat.le_refl _,Nat.zero_le _,rfl,rfl⟩⟩,((Since.refl _).alloc _).alloc _,by simp⟩
theorem XW.add {w wr w6:World} {cs:Array Value} {T : TypeId} {v v':Value} {xs:List Int} {y : Int} {o : Obj} (h:XW w cs T v xs wr) (ha:w6.ownsRow (w.heap.size+1) 3 1 v' (xs++[y]).length ((xs++[y]).map (Value.int .i64))) (t6:Zb (fun q=>v.ownBlock=some q) (wr.alloc o) w6):XW w cs T v' (xs++[y]) w6:=by
 have hv:∀ q,v.ownBlock=some q→w.heap.size+1≤q:=fun q hq=>(World.ownsRow.lt h.own q hq).1
 have hz:=t6.size;refine⟨(h.box.keep ((Since.refl _).alloc _)).turn t6 fun e=>by have:=hv _ e;omega,ha,t6.toSince (h.old.alloc _) fun q hq e=>by have:=hv _ e;omega,?_⟩;have:=h.size;have h9:(wr.alloc o).heap.size=wr.heap.size+1:=by simp
 omega
theorem XW.done {w wr:World} {cs:Array Value} {T : TypeId} {v : Value} {xs:List Int} (h:XW w cs T v xs wr):wr.ownsRow w.heap.size 3 1 v xs.length (xs.map (Value.int .i64)):=by
 obtain⟨h0,h1|⟨g,cap,cur,h1,h2,h3⟩⟩:=h.own
 ·exact⟨h0,.inl h1⟩
 ·exact⟨h0,.inr ⟨g,cap,cur,h1,zaK,h3⟩⟩
theorem QK (params:Int) (bl:List Zt) (bv:Value) (w:World) (h:TosIn w bv bl) (hn:bl.length≤512) (block:Int) :
  Calls prog 107 #[.agg #[.int .i64 params,bv],.int .i64 block] w (Zfh w fun ps=>ps.length≤bl.length∧∀ p∈ps,0≤p∧p<(bl.length:Int)):=by
 obtain⟨ba,bc,hH,hI⟩:=RowIn.shape h;subst hH;obtain⟨n,hk⟩:∃ n,bl.length=n:=⟨_,rfl⟩
 rw[hk]at hn hI h ⊢;have H:=hid h;have hJ:=hid hk;clear h hk;have HW:=hid (XW.new w #[.int .i64 params,.slice ba n bc] 109);go_enter func107,ntmps107
 go_wp2_with fail
 obtain⟨w1,hs⟩:∃ x,x=(w.alloc (.cells #[.int .i64 params,.slice ba n bc] 109)).alloc (.cells #[] 3):=⟨_,rfl⟩
 rw[←hs]at HW ⊢;clear hs
 go_loopw [5,6] (fun av i wr=>∃ (b:Nat) (v:Value) (xs:List Int),b≤n∧av=v∧i=.int .i64 b∧XW w #[.int .i64 params,.slice ba n bc] 109 v xs wr∧xs.length≤b∧∀ p∈xs,0≤p∧p<(b:Int)) (fun _ i _=>n-(intOf i).toNat)
 case atStart=>exact⟨0,_,[],Nat.zero_le _,rfl,rfl,HW.out,Nat.le_refl _,fun p hp=>(by cases hp)⟩
 case round =>
  obtain⟨b,v,xs,hb,rfl,rfl,he,hl,hz⟩:=hrel;obtain⟨xa,xc,hv⟩:=Ze he.own;obtain⟨xl,hg⟩:∃ x,xs.length=x:=⟨_,rfl⟩
  rw[hg]at hv hl;subst hv;have HT:=hid he;have hc:=hid hg;have ho:=hid hz;have c1:wr.cell? ⟨w.heap.size,1,none⟩=some (.slice ba n bc):=he.box.cell 1;have hM:=he.box.lt;clear he hg hz;by_cases hG:b<n
  ·obtain⟨B,off,x,rfl,hB,hx,hA,hj⟩:=RowIn.at H.out (by rw[hJ.out];exact hG);obtain⟨ta,tc,hh⟩:=Zc hj;have c4:wr.cell? ⟨B,off+b*6+4,none⟩=some (.slice ta x.term.to.length tc):=by
    rw[←hh];exact (HT.out.old.cell (p:=⟨B,off+b*6+4,none⟩) hB).trans (hA 4 zaJ)
   have hm:Hid (Zd wr (.slice ta x.term.to.length tc) x.term.to):=hid (by rw[←hh];exact hj.keep HT.out.old);have hO:B<wr.heap.size:=Nat.lt_of_lt_of_le hB HT.out.old.size;generalize x.term.to=tos at *;clear hB hx hA hj hh;obtain⟨wo,hF⟩:∃ x,x=wr:=⟨_,rfl⟩
   subst hF;obtain⟨tl,hi⟩:∃ x,tos.length=x:=⟨_,rfl⟩
   rw[hi]at c4 hm;have hC:=hid hi;clear hi;have hL:tl≤9223372036854775807:=by have:=WC hm.out;omega
   go_wp2_with fail
   go_loopw [5,8] (fun av i w2=>∃ t:Nat,t≤tl∧av=.slice xa xl xc∧i=.int .i64 t∧w2=wo) (fun _ i _=>tl-(intOf i).toNat)
   case atStart=>exact⟨0,Nat.zero_le _,rfl,rfl,rfl⟩
   case round =>
    obtain⟨t,ht,rfl,rfl,rfl⟩:=hrel;by_cases hD:t<tl
    ·obtain⟨hq,ha⟩:=Zr hm.out;obtain⟨B2,off2,rfl,hN,ha⟩:=ha (by intro e;have:=hC.out;rw[e]at this;simp at this;omega);obtain⟨y,hy⟩:∃ y,tos[t]? = some y:=⟨_,List.getElem?_eq_getElem (by rw[hC.out];exact hD)⟩
     have cy:=ha t y hy;clear ha hq hy;by_cases hf:y=block
     ·have hE:(y==block)=true:=by simpa using hf
      clear hf;go_wp2_with (refine Zl (base:=w.heap.size+1) .i64 rfl _ _ 22 rfl 3 (.int .i64 0) 8 underlying22 Tryz.info3 rfl zaJ (.slice xa xl xc) _ xs [(b:Int)] rfl rfl (Zv (by have h9:=HT.out.own;rw[hc.out]at h9 ⊢;exact h9) ((Since.refl _).alloc _)) (Ym _ _ _) (by rw[hc.out];simp;omega) (by have:=HT.out.size;simp;omega) ?_;intro v6 w6 hd hw hr;obtain⟨a6,c6,hu⟩:=Ze hd;rw[show (xs++[(b:Int)]).length=xl+1 from by rw[List.length_append,hc.out];rfl]at hu;subst hu;have hK:=hid (HT.out.add hd hw);clear hd hw hr)
      go_roundw
      case rel=>exact⟨b+1,_,xs++[(b:Int)],zaK,rfl,by go_num,hK.out,by rw[List.length_append,hc.out];show xl+1≤b+1;omega,fun p hp=>by
       rcases List.mem_append.1 hp with hp|hp
       ·have:=ho.out p hp;omega
       ·obtain rfl:=List.mem_singleton.1 hp;omega⟩
      case measure=>simp[intOf];omega
     ·have hE:(y==block)=false:=by simpa using hf
      clear hf;go_wp2
      go_roundw
      case rel=>exact⟨t+1,zaK,by trivial,by go_num,by trivial⟩
      case measure=>simp[intOf];omega
    ·obtain rfl:tl=t:=zaK
     go_wp2
     go_roundw
     case rel=>exact⟨b+1,_,xs,zaK,rfl,by go_num,HT.out,by rw[hc.out];omega,fun p hp=>by have:=ho.out p hp;omega⟩
     case measure=>simp[intOf];omega
  ·obtain rfl:n=b:=zaK
   go_wp2
   go_ret
   exact⟨_,xs,rfl,by have:=HT.out.done;rw[hc.out]at this ⊢;exact this,HT.out.old,by rw[hc.out];exact hl,ho.out⟩
end Go.Proofs.YtimpddecdodddaaGreat
