import Derived.Test.YtmhojfpidedjeaaGreatDoorTp24
namespace Go.Proofs.YtmhojfpidedjeaaGreatDoor
open Go.RowKit Go.Lib
set_option linter.unusedVariables false
set_option maxHeartbeats 8000000
set_option maxRecDepth 100000
theorem Q8 (k:Nat) (h:k<37):Xx ((k:Int)+1)=ZT.getD k ByteArray.empty:=by
 unfold Xx;rw[if_neg (by omega),show ((k:Int)+1-1).toNat=k from by omega]
theorem Zby {s : ByteArray} {k : Nat} (h:k<37) (he:ZT.getD k ByteArray.empty=s) (ha:∀ j,j<k→ZT.getD j ByteArray.empty≠s):XO s=(k:Int)+1:=by
 unfold XO Lib.idxOfS;rw[Lib.idxFromS_hit s ZT k 0 h he ha];omega
theorem ZaM {s : ByteArray} (ha:∀ j,j<37→ZT.getD j ByteArray.empty≠s):XO s=0:=by
 unfold XO Lib.idxOfS;rw[Lib.idxFromS_miss s ZT 0 ha];rfl
theorem Q7 (s:ByteArray):0≤XO s∧XO s≤37:=by
 have h:=ZcO ZT s;have h5:ZT.length=37:=rfl;rw[h5]at h;unfold XO;omega
theorem Zbq (s:ByteArray) (w:World):Calls Tryz.prog 55 #[.string s] w (ZdI (XO s) w):=by
 go_enter Tryz.func55,Tryz.ntmps55
 obtain⟨y,hy⟩:∃ y,XO s=y:=⟨_,rfl⟩
 rw[hy];have HY:=hid hy;clear hy;go_wp2_with fail
 go_loopw [3] (fun io wr=>∃ k:Nat,k≤37∧io=.int .i64 ((k:Int)+1)∧(∀ j,j<k→ZT.getD j ByteArray.empty≠s)∧Since w wr) (fun io _=>38-(intOf io).toNat)
 case atStart=>exact⟨0,by omega,rfl,fun j hj=>by omega,.refl _⟩
 case round =>
  obtain⟨k,hk,rfl,hd,hs⟩:=hrel;have hb:=hid hd;have HS:=hid hs;clear hd hs;by_cases hf:k<37
  ·obtain⟨z,hz⟩:∃ z,ZT.getD k ByteArray.empty=z:=⟨_,rfl⟩
   have ha:=Qp ((k:Int)+1) wr ⟨by omega,by omega⟩;rw[Q8 k hf,hz]at ha;have hh:=hid ha;have HZ:=hid hz;clear ha hz;go_wp2_with fail
   refine hh.out.mono ?_;rintro e1 w1 ⟨rfl,hc⟩;have hg:=hid (HS.out.trans hc);clear hc;by_cases he:z=s
   ·have hq:(z.toList==s.toList)=true:=(Lib.bytes_beq_iff z s).2 he;have HI:=hid (Zby hf (HZ.out.trans he) hb.out);obtain rfl:(k:Int)+1=y:=HI.out.symm.trans HY.out;clear he;go_wp2
    go_ret
    exact⟨rfl,hg.out⟩
   ·have hq:(z.toList==s.toList)=false:=(Lib.bytes_beq_false_iff z s).2 he;have HX:=hid he;clear he;go_wp2
    go_roundw
    case rel=>exact⟨k+1,by omega,by go_num,fun j hj=>by
     by_cases h:j<k
     ·exact hb.out j h
     ·obtain rfl:j=k:=by omega
      rw[HZ.out];exact HX.out,hg.out⟩
    case measure=>simp[intOf];omega
  ·obtain rfl:k=37:=by omega
   have HI:=hid (ZaM hb.out);obtain rfl:0=y:=HI.out.symm.trans HY.out;go_wp2
   go_ret
   exact⟨rfl,HS.out⟩
theorem X8 (s:Bs):XD s=match YK Yk [] (numd 1 (linesOf s)) with
  | .error x=>⟨[],x.1,x.2⟩
  | .ok t=>⟨t,0,0⟩:=by
 unfold XD;rw[V0 Yk (linesOf s) 0 []];rfl
theorem Zc6 {l t:List ZH} {x : List ByteArray} (h:Yk l x=.ok t):t.length≤l.length+1:=by
 unfold Yk at h;split at h
 ·cases h;omega
 ·split at h
  ·split at h
   ·split at h
    ·split at h
     ·cases h;simp
     ·cases h
    ·cases h
   ·cases h
  ·cases h
theorem ZfW {σ:Type} {step:σ→List ByteArray→Except Int σ} {s t u:σ} {D : List (List ByteArray × Int)} {i : Nat} {x : List ByteArray} {n : Int} (h:YK step s (D.take i)=.ok t) (hx:D[i]? = some (x,n)) (hs:step t x=.ok u):YK step s (D.take (i+1))=.ok u:=by
 rw[Q5 h hx];show (match step t x with | .error e=>_ | .ok u=>_)=_;rw[hs]
theorem Jo {σ:Type} {step:σ→List ByteArray→Except Int σ} {s t:σ} {D : List (List ByteArray × Int)} {i : Nat} {x : List ByteArray} {n e:Int} (h:YK step s (D.take i)=.ok t) (hx:D[i]? = some (x,n)) (hs:step t x=.error e):YK step s D=.error (n,e):=by
 apply ZaG (i:=i+1)
 rw[Q5 h hx];show (match step t x with | .error e=>_ | .ok u=>_)=_;rw[hs]
theorem Qa:Wf.toList=[116,105,108,101]:=by kernel_rfl
theorem ZbE {f : ByteArray} (h:¬ f=Wf):(f.toList==[116,105,108,101])=false:=by have:=(Lib.bytes_beq_false_iff f Wf).2 h;rwa [Qa]at this
theorem ZcM {f : ByteArray} (h:f=Wf):(f.toList==[116,105,108,101])=true:=by have:=(Lib.bytes_beq_iff f Wf).2 h;rwa [Qa]at this
def ZeB (v:Value) (line e:Int):Value:=.agg #[v,.int .i64 line,.int .i64 e]
theorem Zgb (x:ByteArray):ZO (ZS x):=⟨by have:=(YH x).1;omega,by have:=(YH x).2;omega⟩
theorem Zf7 (x:ByteArray):ZO (XO x):=⟨by have:=(Q7 x).1;omega,by have:=(Q7 x).2;omega⟩
def Ke (l:List ZH):Prop:=∀ t∈l,ZO t.pat∧ZO t.cost
theorem Zax {w : World} {b : Nat} {v : Value} {l : List ZH} (h:OwnRow dtcells 2 79 b w v l) (ho:Ke l):Ws w v l:=Yf (f:=dtcells) (fun _=>rfl) h fun x hx=>ho x hx
theorem Ke.more {l : List ZH} (h:Ke l) (p c:ByteArray):Ke (l++[⟨XO p,ZS c⟩]):=fun t ht=>by
 rcases List.mem_append.1 ht with h1|h1
 ·exact h t h1
 ·rw[List.mem_singleton.1 h1];exact⟨Zf7 p,Zgb c⟩
theorem KM (t:ZH):∀ u∈dtcells t,u.oneCell'=true:=fun u hu=>by simp[dtcells]at hu;rcases hu with rfl | rfl<;>rfl
def ZgE (s:ByteArray) (w:World) (e:Ending) (w':World):Prop:=∃ v l line er,e=.returned (ZeB v line er)∧Ws w' v l∧(⟨l,line,er⟩:X5)=XD s.data.toList∧Since w w'
theorem X7 (w:World):Ws w (.slice none 0 0) []:=.inl ⟨none,rfl,rfl⟩
theorem Zcm (s:ByteArray) (w:World) (hs:s.size≤300000):Calls Tryz.prog 34 #[.string s] w (ZgE s w):=by
 go_enter Tryz.func34,Tryz.ntmps34
 go_wp2_with fail
 have tp:=hid (HeapIs.new w #[.slice none 0 0,.int .i64 0,.int .i64 0] 86);have tn:=hid ((Since.refl w).alloc (.cells #[.slice none 0 0,.int .i64 0,.int .i64 0] 86));refine (Qt s _ (by omega)).mono ?_;rintro e1 w2 ⟨lv,outl,rfl,Hc,He,h0⟩;obtain⟨la,lc,HE,_⟩:=RowIn.shape Hc;obtain⟨ln,hO⟩:∃ n,outl.length=n:=⟨_,rfl⟩
 rw[hO]at HE;subst HE;obtain⟨nn,HD⟩:∃ n:Nat,(linesOf s.data.toList).length=n:=⟨_,rfl⟩
 rw[HD];have Hq:=hid (tp.out.keep h0);have HJ:=hid (tn.out.trans h0);have tF:ln≤300001:=by have:=W4 s.data.toList;have:=Jv (linesOf s.data.toList) 1;rw[←He,List.length_map,hO]at this;rw[Zq]at *;omega
 have tx:=hid Hc;have ht:=hid He;have HU:=hid hO;clear Hc He h0 hO HD;obtain⟨qb,h6⟩:∃ q,w2.heap.size=q:=⟨_,rfl⟩
 have h8:=HeapIs.new w2 #[.slice none 0 0,.int .i64 0,.int .i64 0] 86;rw[h6]at h8;have ts:=hid h8;have tq:=hid h6;clear h8;go_wp2_with fail
 clear h6
 go_loopw [6] (fun io wr=>∃ (i:Nat) (tv:Value) (tl:List ZH),io=.int .i64 i∧i≤ln∧HeapIs wr qb #[tv,.int .i64 0,.int .i64 0] 86∧OwnRow dtcells 2 79 w2.heap.size wr tv tl∧YK Yk [] ((outl.map LnV.d).take i)=.ok tl∧(tl.length≤i∧Ke tl)∧Since w2 wr) (fun io _=>ln-(intOf io).toNat)
 case atStart=>exact⟨0,_,[],rfl,Nat.zero_le _,ts.out,OwnRow.nil _ _ _ _ _,rfl,⟨Nat.le_refl _,fun _ h=>(by cases h)⟩,(Since.refl _).alloc _⟩
 case round =>
  obtain⟨i,tv,tl,rfl,hi,hq,ho,hh,hD,hJ⟩:=hrel;obtain⟨ta,tc,e1⟩:=Ze ho;obtain⟨kt,hP⟩:∃ k,tl.length=k:=⟨_,rfl⟩
  rw[hP]at e1;subst e1;have HQ:=hid hq;have HO:=hid ho;have hj:=hid hh;have HP:=hid hD.2;have tG:kt≤i:=by rw[←hP];exact hD.1
  have Hu:=hid hP;have Hp:=hid hJ;have HR:=hid (Hq.out.keep hJ);have hT:=hid (HJ.out.trans hJ);clear hq ho hh hD hJ hP;by_cases te:i<ln
  ·obtain⟨b,off,x,rfl,hb,hx,hu,hk⟩:=RowIn.at (RowIn.keep Y7.keep tx.out Hp.out) (k:=i) (by rw[HU.out];exact te);have c0:=hu 0 (by decide);have c1:=hu 1 (by decide);obtain⟨ws,wv,xn⟩:=x;rw[show lncells ⟨ws,wv,xn⟩=[wv,.int .i64 xn] from rfl]at c0 c1
   rw[Nat.add_zero]at c0;have c0:wr.cell? ⟨b,off+i*2,none⟩=some wv:=c0;have c1:wr.cell? ⟨b,off+i*2+1,none⟩=some (.int .i64 xn):=c1;have Hg:(outl.map LnV.d)[i]? = some (ws,xn):=by rw[List.getElem?_map,hx];rfl
   have Hb:=Ju (linesOf s.data.toList) 1 (ws,xn) (by rw[←ht.out];exact List.mem_of_getElem? Hg);obtain⟨f,r,th⟩:∃ f r,ws=f::r:=by
    match ws,Hb.2 with
    | f::r,_=>exact⟨f,r,rfl⟩
   subst th;obtain⟨rn,hK⟩:∃ n,(f::r).length=n:=⟨_,rfl⟩
   obtain⟨wa,wc,e2,Hx⟩:=RowIn.shape (show StrsIn wr wv (f::r) from hk)
   rw[hK]at e2 Hx;unfold maxLen at Hx;subst e2;have tC:0<rn:=by rw[←hK];simp
   have H2:=hid (show ∀ (w9:World),StrsIn w9 (.slice wa rn wc) (f::r)→∃ bw ow,wa=some ⟨bw,ow,none⟩∧bw<w9.heap.size∧w9.cell? ⟨bw,ow,none⟩=some (.string f)∧f.size≤1000000 from fun w9 h=>by
    obtain⟨b0,o0,x0,h1,h2,h3,h4,h5⟩:=StrsIn.at h (k:=0) (by simp);obtain rfl:f=x0:=by simpa using h3
    rw[Nat.add_zero]at h4;exact⟨b0,o0,h1,h2,h4,h5⟩)
   have hz:=hid Hg;have HV:=zH (StrsIn wr (.slice wa rn wc) (f::r)) hk;obtain⟨bw,ow,rfl,hQ,cf,tf⟩:=H2.out wr hk;have HK:=hid hK;clear hx hu hk Hg Hb hK;by_cases hf:f=Wf
   ·have H6:=ZcM hf;have HF:=hid hf;clear hf;by_cases h3:rn=3
    ·subst h3;obtain⟨p,c,hr⟩:∃ p c,r=[p,c]:=by
      match r,HK.out with
      | [p,c],_=>exact⟨p,c,rfl⟩
     subst hr;have Hn:=hid (show Yk tl [f,p,c]=if 0<XO p then (if Ya c then .ok (tl++[⟨XO p,ZS c⟩]) else .error 71) else .error 72 from by
      show (if f=Wf then _ else _)=_
      rw[if_pos HF.out];exact if_pos rfl)
     obtain⟨b1,o1,x1,e1,_,h1,cp,H7⟩:=StrsIn.at HV.out (k:=1) (by simp)
     cases e1
     obtain rfl:p=x1:=by simpa using h1
     obtain⟨b2,o2,x2,e2,_,h2,cc,HG⟩:=StrsIn.at HV.out (k:=2) (by simp)
     cases e2
     obtain rfl:c=x2:=by simpa using h2
     clear h1 h2;obtain⟨pn,hM⟩:∃ n,XO p=n:=⟨_,rfl⟩
     have hC:=fun W=>Zbq p W
     rw[hM]at hC;have Hr:=hid hC;have HZ:=Q7 p;rw[hM]at HZ;have hV:=hid hM;clear hC hM;have hW:=hid (fun W=>(show Calls Tryz.prog 56 #[.string c] W fun e w'=>e=.returned (.tuple #[.int .i32 (ZS c),.bool (Ya c)])∧Since W w' from Qr c W HG))
     obtain⟨nv,hN⟩:∃ n,ZS c=n:=⟨_,rfl⟩
     obtain⟨ok,hk⟩:∃ b,Ya c=b:=⟨_,rfl⟩
     rw[hN,hk]at hW;have td:=(YH c).1;have H9:=(YH c).2;rw[hN]at td H9;have HT:=hid hN;have Hs:=hid hk;clear hN hk H7 HG tf;go_wp2_with fail
     refine (Hr.out _).mono ?_;rintro e4 w4 ⟨rfl,hv⟩;have hv:Since _ _:=hv;have HH:=hid (HeapIs.keep (HeapIs.new wr #[.int .i64 0,.int .i64 0] 79) hv);have H3:=HH.out.lt;have hm:Since wr w4:=((Since.refl wr).alloc _).trans hv;have d0:w4.cell? ⟨b,off+i*2+1,none⟩=some (.int .i64 xn):=(hm.cell (p:=⟨b,off+i*2+1,none⟩) hb).trans c1;have d1:w4.cell? ⟨bw,ow+1,none⟩=some (.string p):=(hm.cell (p:=⟨bw,ow+1,none⟩) hQ).trans cp;have d2:w4.cell? ⟨bw,ow+2,none⟩=some (.string c):=(hm.cell (p:=⟨bw,ow+2,none⟩) hQ).trans cc;have Hi:=Nat.lt_of_lt_of_le hb hm.size;have hE:=Nat.lt_of_lt_of_le hQ hm.size;have Ho:=hid hm;have tB:=hid hb;clear c0 c1 cf cp cc hb hQ hm hv;by_cases HB:0<pn
     ·have tE:(pn==0)=false:=by rw[beq_eq_false_iff_ne];omega
      go_wp2_with fail
      refine (hW.out _).mono ?_;rintro e5 w5 ⟨rfl,hc⟩;have Hk:=hid (HH.out.keep hc);have HY:=Hk.out.lt;have f0:w5.cell? ⟨b,off+i*2+1,none⟩=some (.int .i64 xn):=(hc.cell (p:=⟨b,off+i*2+1,none⟩) Hi).trans d0;have f1:w5.cell? ⟨bw,ow+1,none⟩=some (.string p):=(hc.cell (p:=⟨bw,ow+1,none⟩) hE).trans d1;have ha:=Nat.lt_of_lt_of_le Hi hc.size;have H0:=Nat.lt_of_lt_of_le hE hc.size;have tm:=hid (Ho.out.trans hc);clear d0 d1 d2 Hi hE H3 hc;go_wp2_with fail
      refine (Hr.out _).mono ?_;rintro e6 w6 ⟨rfl,hn⟩;have hn:Since w5 w6:=hn;have hH:=Hk.out.keep hn;have hG:=hid hH;have HX:=hH.lt;have H4:=hH.frozen;have g0:w6.cell? ⟨b,off+i*2+1,none⟩=some (.int .i64 xn):=(hn.cell (p:=⟨b,off+i*2+1,none⟩) ha).trans f0;have Hh:=Nat.lt_of_lt_of_le ha hn.size;have hU:=hid (tm.out.trans hn);have tJ:=zH (wr.heap.size≤w6.heap.size) hU.out.size;clear f0 f1 ha H0 HY hn hH H4;obtain⟨xb,hX⟩:∃ q,wr.heap.size=q:=⟨_,rfl⟩
      have hF:=hid hX;rw[hX]at hG HX;have tA:=zH (b≠xb) (fun e=>by have:=tB.out;rw[hX,e]at this;exact Nat.lt_irrefl _ this);go_upto_region 11 with (refine wpList_store_row rfl 79 _ _ rfl xb #[.int .i64 pn,.int .i64 nv] rfl rfl 79 _ hG.out (by kernel_rfl) rfl (by rw[←Array.all_toList];rfl) ?_;have Hv:=Ye hG.out #[.int .i64 pn,.int .i64 nv];have hI:=VG (S:=fun q=>q=xb) (w:=w6) rfl #[.int .i64 pn,.int .i64 nv];generalize w6.setRow xb #[.int .i64 pn,.int .i64 nv]=w7 at *;have ti:=tA.out;have g1:w7.cell? ⟨b,off+i*2+1,none⟩=some (.int .i64 xn):=(hI.cell (p:=⟨b,off+i*2+1,none⟩) Hh ti).trans g0;have tH:=Nat.lt_of_lt_of_le Hh hI.size;have Hj:=zH (HeapIs w7 xb #[.int .i64 pn,.int .i64 nv] 79) Hv;have j0:w7.cell? ⟨xb,0,none⟩=some (.int .i64 pn):=Hj.out.cell 0;have j1:w7.cell? ⟨xb,1,none⟩=some (.int .i64 nv):=Hj.out.cell 1;have jl:=Hj.out.lt;have Hm:=hid hI;clear hI Hv g0 Hh)
      have tj:=hid (Hp.out.trans hU.out);have Hw:=Hp.out.size;rw[hF.out]at Hw;have Hl:=hid (Hm.out.toSince tj.out fun q hq e=>by omega);have HL:=hid (Hq.out.keep Hl.out);have H1:=hid (HJ.out.trans Hl.out);have H5:qb<xb:=by rw[←hF.out];exact HQ.out.lt
      have hL:=(HQ.out.keep hU.out).turn Hm.out (by omega);have HC:=Zi (OwnRow.keep HO.out hU.out) Hm.out (fun q hq e=>by have:=(World.ownsRow.lt HO.out q hq).2;rw[hF.out]at this;omega)
      have tr:=hid hL;have tt:=hid HC;have m0:w7.cell? ⟨qb,0,none⟩=some (.slice ta kt tc):=hL.cell 0;have ml:=hL.lt;clear hL HC H5 Hw
      cases ok with
      | false =>
       have hd:=hid (Jo hj.out hz.out (show Yk tl [f,p,c]=.error 71 from by rw[Hn.out,hV.out,if_pos HB,if_neg (by rw[Hs.out];simp)]));go_wp2_with (refine wpList_store_row rfl 86 _ _ rfl w.heap.size #[.slice none 0 0,.int .i64 xn,.int .i64 71] rfl rfl 86 _ HL.out (by kernel_rfl) rfl (by rw[←Array.all_toList];rfl) ?_)
       have ha:HeapIs (World.setRow w7 w.heap.size #[.slice none 0 0,.int .i64 xn,.int .i64 71]) w.heap.size #[.slice none 0 0,.int .i64 xn,.int .i64 71] 86:=Ye HL.out _;have hc:Since w (World.setRow w7 w.heap.size #[.slice none 0 0,.int .i64 xn,.int .i64 71]):=ZX H1.out (Nat.le_refl _) _;generalize World.setRow w7 w.heap.size #[.slice none 0 0,.int .i64 xn,.int .i64 71]=w9 at *;have hg:=zH ((⟨[],xn,71⟩:X5)=XD s.data.toList) (by rw[X8,←ht.out,hd.out]);have k0:=ha.cell 0;have k1:=ha.cell 1;have k2:=ha.cell 2;have kl:=ha.lt;have he:=hid hc;clear ha hc;go_wp2
       exact bodyPost_ret (v:=.agg #[.slice none 0 0,.int .i64 xn,.int .i64 71]) (by simp[results,Tryz.results34,go_sem,k0,k1,k2]) rfl ⟨_,[],xn,71,rfl,X7 _,hg.out,he.out⟩
      | true =>
       have hd:=hid (ZfW hj.out hz.out (show Yk tl [f,p,c]=.ok (tl++[(⟨pn,nv⟩:ZH)]) from by rw[Hn.out,hV.out,HT.out,if_pos HB,if_pos Hs.out]))
       have hR:=(Since.refl w7).alloc (.cells #[.int .i64 pn,.int .i64 nv] 79);have tu:=hid (HeapIs.new w7 #[.int .i64 pn,.int .i64 nv] 79);have HN:=hid (tr.out.keep hR);have Ht:=hid (OwnRow.keep tt.out hR);have HI:=hid (Hl.out.trans hR);obtain⟨km,Hf⟩:∃ k,(tl++[(⟨pn,nv⟩:ZH)]).length=k:=⟨_,rfl⟩
       have HW:=hid Hf;have tz:=zH (km≤i+1) (by rw[←Hf,List.length_append,Hu.out];simp;omega);clear hR Hf;go_wp2_with (at_builtin;refine Zf dtcells 2 (fun _=>rfl) (by decide) rfl _ _ 25 rfl 79 (.agg #[.int .i64 0,.int .i64 0]) 16 Tryz.underlying25 (by kernel_rfl) rfl (.slice ta kt tc) tl ⟨pn,nv⟩ _ 1 _ rfl rfl Ht.out tu.out (KM _) (by rw[Hu.out];unfold maxLen;omega) (by rw[Hu.out];omega) HI.out.size ?_;intro v9 w9 h9 hZ H8;obtain⟨va,vc,Hz⟩:=Ze h9;rw[HW.out]at Hz;subst Hz;have hy:=HN.out.turn hZ (Zk Ht.out HN.out (by decide));have n0:w9.cell? ⟨qb,0,none⟩=some (.slice ta kt tc):=hy.cell 0;have nl:=hy.lt;have nf:=hy.frozen;have HM:=hid hy;have HS:=hid h9;have tk:=hid hZ;clear hy h9 hZ H8)
       have hB:Turn (fun q=>q=qb) w9 (w9.setCell ⟨qb,0,none⟩ (.slice va km vc)):=(Turn.refl (fun q=>q=qb) w9).setCell (p:=⟨qb,0,none⟩) rfl _;have h7:=HM.out.set 0 (.slice va km vc);have Ha:=Zi HS.out hB fun q hq e=>Zk HS.out HM.out (by decide) (by rw[←e];exact hq)
       have Hy:=tk.out.toSince HI.out fun q hq hr=>by have:=(World.ownsRow.lt Ht.out q hr).1;omega
       have hY:=hB.toSince Hy fun q hq e=>by rw[e,←tq.out]at hq;exact Nat.lt_irrefl _ hq
       have HF:=hid (And.intro h7 (And.intro Ha hY));clear hB h7 Ha Hy hY
       go_roundw
       case rel=>exact⟨i+1,_,tl++[(⟨pn,nv⟩:ZH)],by go_num,by omega,HF.out.1,HF.out.2.1,hd.out,⟨by rw[HW.out];exact tz.out,by have:=HP.out.more p c;rwa [hV.out,HT.out]at this⟩,HF.out.2.2⟩
       case measure=>simp[intOf];omega
     ·obtain rfl:pn=0:=by omega
      have hl:=hid (HR.out.keep Ho.out);have hp:=hid (hT.out.trans Ho.out);have hd:=hid (Jo hj.out hz.out (show Yk tl [f,p,c]=.error 72 from by rw[Hn.out,hV.out,if_neg (by omega)]));go_wp2_with (refine wpList_store_row rfl 86 _ _ rfl w.heap.size #[.slice none 0 0,.int .i64 xn,.int .i64 72] rfl rfl 86 _ hl.out (by kernel_rfl) rfl (by rw[←Array.all_toList];rfl) ?_)
      have ha:HeapIs (World.setRow w4 w.heap.size #[.slice none 0 0,.int .i64 xn,.int .i64 72]) w.heap.size #[.slice none 0 0,.int .i64 xn,.int .i64 72] 86:=Ye hl.out _;have hc:Since w (World.setRow w4 w.heap.size #[.slice none 0 0,.int .i64 xn,.int .i64 72]):=ZX hp.out (Nat.le_refl _) _;generalize World.setRow w4 w.heap.size #[.slice none 0 0,.int .i64 xn,.int .i64 72]=w9 at *;have hg:=zH ((⟨[],xn,72⟩:X5)=XD s.data.toList) (by rw[X8,←ht.out,hd.out]);have k0:=ha.cell 0;have k1:=ha.cell 1;have k2:=ha.cell 2;have kl:=ha.lt;have he:=hid hc;clear ha hc;go_wp2
      exact bodyPost_ret (v:=.agg #[.slice none 0 0,.int .i64 xn,.int .i64 72]) (by simp[results,Tryz.results34,go_sem,k0,k1,k2]) rfl ⟨_,[],xn,72,rfl,X7 _,hg.out,he.out⟩
    ·have tI:((rn:Int)==3)=false:=by rw[beq_eq_false_iff_ne];omega
     have tw:=hid h3;have hA:=hid ((Since.refl wr).alloc (.cells #[.int .i64 0,.int .i64 0] 79));have hl:=hid (HR.out.keep hA.out);have hp:=hid (hT.out.trans hA.out);have hd:=hid (Jo hj.out hz.out (show Yk tl (f::r)=.error 70 from by show (if f=Wf then _ else _)=_;rw[if_pos HF.out];exact if_neg (fun e=>tw.out (by rw[←HK.out,List.length_cons,e]))))
     clear h3;go_wp2_with (refine wpList_store_row rfl 86 _ _ rfl w.heap.size #[.slice none 0 0,.int .i64 xn,.int .i64 70] rfl rfl 86 _ hl.out (by kernel_rfl) rfl (by rw[←Array.all_toList];rfl) ?_)
     have ha:HeapIs (World.setRow (wr.alloc (.cells #[.int .i64 0,.int .i64 0] 79)) w.heap.size #[.slice none 0 0,.int .i64 xn,.int .i64 70]) w.heap.size #[.slice none 0 0,.int .i64 xn,.int .i64 70] 86:=Ye hl.out _;have hc:Since w (World.setRow (wr.alloc (.cells #[.int .i64 0,.int .i64 0] 79)) w.heap.size #[.slice none 0 0,.int .i64 xn,.int .i64 70]):=ZX hp.out (Nat.le_refl _) _;generalize World.setRow (wr.alloc (.cells #[.int .i64 0,.int .i64 0] 79)) w.heap.size #[.slice none 0 0,.int .i64 xn,.int .i64 70]=w9 at *;have hg:=zH ((⟨[],xn,70⟩:X5)=XD s.data.toList) (by rw[X8,←ht.out,hd.out]);have k0:=ha.cell 0;have k1:=ha.cell 1;have k2:=ha.cell 2;have kl:=ha.lt;have he:=hid hc;clear ha hc;go_wp2
     exact bodyPost_ret (v:=.agg #[.slice none 0 0,.int .i64 xn,.int .i64 70]) (by simp[results,Tryz.results34,go_sem,k0,k1,k2]) rfl ⟨_,[],xn,70,rfl,X7 _,hg.out,he.out⟩
   ·have H6:=ZbE hf;have HF:=hid hf;have hA:=hid ((Since.refl wr).alloc (.cells #[.int .i64 0,.int .i64 0] 79));have hl:=hid (HR.out.keep hA.out);have hp:=hid (hT.out.trans hA.out);have hd:=hid (Jo hj.out hz.out (show Yk tl (f::r)=.error 72 from by exact if_neg HF.out))
    clear hf;go_wp2_with (refine wpList_store_row rfl 86 _ _ rfl w.heap.size #[.slice none 0 0,.int .i64 xn,.int .i64 72] rfl rfl 86 _ hl.out (by kernel_rfl) rfl (by rw[←Array.all_toList];rfl) ?_)
    have ha:HeapIs (World.setRow (wr.alloc (.cells #[.int .i64 0,.int .i64 0] 79)) w.heap.size #[.slice none 0 0,.int .i64 xn,.int .i64 72]) w.heap.size #[.slice none 0 0,.int .i64 xn,.int .i64 72] 86:=Ye hl.out _;have hc:Since w (World.setRow (wr.alloc (.cells #[.int .i64 0,.int .i64 0] 79)) w.heap.size #[.slice none 0 0,.int .i64 xn,.int .i64 72]):=ZX hp.out (Nat.le_refl _) _;generalize World.setRow (wr.alloc (.cells #[.int .i64 0,.int .i64 0] 79)) w.heap.size #[.slice none 0 0,.int .i64 xn,.int .i64 72]=w9 at *;have hg:=zH ((⟨[],xn,72⟩:X5)=XD s.data.toList) (by rw[X8,←ht.out,hd.out]);have k0:=ha.cell 0;have k1:=ha.cell 1;have k2:=ha.cell 2;have kl:=ha.lt;have he:=hid hc;clear ha hc;go_wp2
    exact bodyPost_ret (v:=.agg #[.slice none 0 0,.int .i64 xn,.int .i64 72]) (by simp[results,Tryz.results34,go_sem,k0,k1,k2]) rfl ⟨_,[],xn,72,rfl,X7 _,hg.out,he.out⟩
  ·obtain rfl:ln=i:=by omega
   have hh:=hj.out;rw[List.take_of_length_le (by rw[List.length_map,HU.out];exact Nat.le_refl _),ht.out]at hh;have hg:=zH ((⟨tl,0,0⟩:X5)=XD s.data.toList) (by rw[X8,hh]);have c0:wr.cell? ⟨qb,0,none⟩=some (.slice ta kt tc):=HQ.out.cell 0;have c1:wr.cell? ⟨qb,1,none⟩=some (.int .i64 0):=HQ.out.cell 1;have c2:wr.cell? ⟨qb,2,none⟩=some (.int .i64 0):=HQ.out.cell 2;have tD:=HQ.out.lt;have hS:=hid (Zax (Zi HO.out (VG (S:=fun q=>q=w.heap.size) (w:=wr) rfl #[.slice ta kt tc,.int .i64 0,.int .i64 0]) fun q hq e=>by have h1:=(World.ownsRow.lt HO.out q hq).1;have h2:=Hq.out.lt;omega) HP.out)
   clear hh;go_wp2_with (refine wpList_store_row rfl 86 _ _ rfl w.heap.size #[.slice ta kt tc,.int .i64 0,.int .i64 0] rfl rfl 86 _ HR.out (by kernel_rfl) rfl (by rw[←Array.all_toList];rfl) ?_)
   have ha:HeapIs (World.setRow wr w.heap.size #[.slice ta kt tc,.int .i64 0,.int .i64 0]) w.heap.size #[.slice ta kt tc,.int .i64 0,.int .i64 0] 86:=Ye HR.out _;have hc:Since w (World.setRow wr w.heap.size #[.slice ta kt tc,.int .i64 0,.int .i64 0]):=ZX hT.out (Nat.le_refl _) _;have HA:=hS.out;clear hS;generalize World.setRow wr w.heap.size #[.slice ta kt tc,.int .i64 0,.int .i64 0]=w9 at *;have k0:=ha.cell 0;have k1:=ha.cell 1;have k2:=ha.cell 2;have kl:=ha.lt;have he:=hid hc;have hS:=hid HA;clear ha hc HA;go_wp2
   exact bodyPost_ret (v:=.agg #[.slice ta kt tc,.int .i64 0,.int .i64 0]) (by simp[results,Tryz.results34,go_sem,k0,k1,k2]) rfl ⟨_,tl,0,0,rfl,hS.out,hg.out,he.out⟩
end Go.Proofs.YtmhojfpidedjeaaGreatDoor
