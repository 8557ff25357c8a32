/- jacquardref25.Tiles: which text a table is, by the document. The document's ParseTiles: the walk. -/
import Derived.Test.YtmhojfpidedjeaaGreatDoorRz08
import Derived.Test.YtmhojfpidedjeaaGreatDoorRz12
import Derived.Test.YtmhojfpidedjeaaGreatDoorRz24
namespace Go.Proofs.YtmhojfpidedjeaaGreatDoor
open Go.RowKit
set_option linter.unusedVariables false
set_option maxHeartbeats 4000000 in
set_option maxRecDepth 100000 in
theorem rtiles25_any (v:Value) (l:List DTile) (w:World) (hf:TilesIn w v l) (hn:(tilesS l).length≤500000) :
  Calls Tryz.prog 14 #[v] w (StrQ ⟨(tilesS l).toArray⟩ w):=by
 obtain⟨ba,bc,e,hbl⟩:=RowIn.shape hf
 obtain rfl:v=.slice ba l.length bc:=e
 unfold maxLen at hbl
 have HF:=Lib.hid hf
 have HN:=Lib.hid hn
 clear hf hn
 go_enter Tryz.func14,Tryz.ntmps14
 go_wp2_with fail
 go_loopw [3,4] (fun so io wr=>∃ (k:Nat) (out:ByteArray),out=⟨((l.take k).flatMap tileS).toArray⟩∧so=.string out∧io=.int .i64 k∧k≤l.length∧Since w wr) (fun _ io _=>l.length-(intOf io).toNat)
 case atStart=>exact⟨0,⟨#[]⟩,rfl,rfl,rfl,Nat.zero_le _,Since.refl _⟩
 case round =>
  obtain⟨k,out,hout,rfl,rfl,hk,hs⟩:=hrel
  obtain⟨wo,hwo⟩:∃ z,z=wr:=⟨_,rfl⟩
  subst hwo
  have HO:=Lib.hid hout
  have HS:=Lib.hid hs
  have hso:out.size≤500000:=by
   have h1:=flat_take tileS l k
   have:=HN.out
   unfold tilesS at this
   rw[hout,bs_size];omega
  clear hout
  by_cases hlt:k<l.length
  ·obtain⟨rb,off,x,rfl,hrb,hx,hc,hxr⟩:=RowIn.at HF.out hlt
   have HNX:=Lib.hid (flat_next tileS hx)
   obtain⟨pat,cost⟩:=x
   have c0:wo.cell? ⟨rb,off+k*2,none⟩=some (.int .i64 pat):=(hs.cell (p:=⟨rb,off+k*2+0,none⟩) hrb).trans (hc 0 (by decide))
   have hrl:rb<wo.heap.size:=Nat.lt_of_lt_of_le hrb hs.size
   have HRB:=Lib.hid hrb
   have HC1:=Lib.hid (hc 1 (by decide))
   obtain⟨y,hy⟩:∃ y,patB pat=y:=⟨_,rfl⟩
   have hnm:=rtname_any pat wo hxr.1
   rw[hy]at hnm
   have HNM:=Lib.hid hnm
   have HY:=Lib.hid hy
   obtain⟨z,hz⟩:∃ z:ByteArray,⟨(patS pat).toArray⟩=z:=⟨_,rfl⟩
   have HZ:=Lib.hid hz
   obtain⟨z1,hz1⟩:∃ z:ByteArray,⟨(dS cost).toArray⟩=z:=⟨_,rfl⟩
   have hcz:=fun W=>rd_any cost W hxr.2
   rw[hz1]at hcz
   have HCZ:=Lib.hid hcz
   have hsz1:z1.size≤1000:=by rw[←hz1,bs_size];have:=dS_len cost hxr.2;omega
   have HNXT:=Lib.hid (show out++⟨#[116,105,108,101,32]⟩++z++z1++⟨#[10]⟩=⟨((l.take (k+1)).flatMap tileS).toArray⟩ from by
    rw[HO.out,HNX.out,←hz,←hz1,tile_eq]
    apply bytes_ext
    rw[bytes_app,bytes_app,bytes_app,bytes_app]
    simp[itS])
   clear hs hc hx hnm hy hxr hz hz1 hcz hrb
   go_wp2_with fail
   refine HNM.out.mono ?_
   rintro e w4 ⟨rfl,hs4⟩
   have hs5:=HS.out.trans hs4
   have c1:w4.cell? ⟨rb,off+k*2+1,none⟩=some (.int .i64 cost):=(hs5.cell (p:=⟨rb,off+k*2+1,none⟩) HRB.out).trans HC1.out
   have hrl4:rb<w4.heap.size:=Nat.lt_of_lt_of_le HRB.out hs5.size
   have HS5:=Lib.hid hs5
   clear c0 hrl hs4 hs5
   by_cases hpp:pat<1∨37<pat
   ·obtain rfl:ByteArray.empty=y:=by rw[←HY.out];unfold patB;rw[if_pos hpp]
    obtain rfl:⟨#[63]⟩=z:=by rw[←HZ.out];unfold patS;rw[if_pos hpp]
    clear hpp
    go_wp2_with fail
    refine (HCZ.out _).mono ?_
    rintro e w5 ⟨rfl,hs6⟩
    have HS6:=Lib.hid (HS5.out.trans hs6)
    clear hs6 c1 hrl4
    go_wp2
    go_roundw
    case rel=>exact⟨k+1,_,HNXT.out,rfl,by go_num,by omega,HS6.out⟩
    case measure=>simp[intOf];omega
   ·obtain rfl:y=z:=by rw[←HY.out,←HZ.out];unfold patS;rw[if_neg hpp]
    have hall:∀ k,k<37→((patNames.getD k ByteArray.empty).data.toList==[])=false∧(patNames.getD k ByteArray.empty).size≤10:=by decide
    have hq:(y.toList==[])=false∧y.size≤10:=by
     have:=hall (pat-1).toNat (by omega)
     rw[←HY.out,ByteArray.toList_eq]
     unfold patB
     rw[if_neg hpp]
     exact this
    obtain⟨hq,hq2⟩:=hq
    clear hpp hall
    go_wp2_with fail
    refine (HCZ.out _).mono ?_
    rintro e w5 ⟨rfl,hs6⟩
    have HS6:=Lib.hid (HS5.out.trans hs6)
    clear hs6 c1 hrl4
    go_wp2
    go_roundw
    case rel=>exact⟨k+1,_,HNXT.out,rfl,by go_num,by omega,HS6.out⟩
    case measure=>simp[intOf];omega
  ·obtain rfl:l.length=k:=by omega
   rw[List.take_length]at HO
   clear hs
   go_wp2
   go_ret
   exact⟨by rw[HO.out];rfl,HS.out⟩
theorem patB_at (k:Nat) (h:k<37):patB ((k:Int)+1)=patNames.getD k ByteArray.empty:=by
 unfold patB
 rw[if_neg (by omega),show ((k:Int)+1-1).toNat=k from by omega]
theorem patF_hit {s : ByteArray} {k : Nat} (h:k<37) (he:patNames.getD k ByteArray.empty=s) (hne:∀ j,j<k→patNames.getD j ByteArray.empty≠s):patF s=(k:Int)+1:=by
 unfold patF Lib.idxOfS
 rw[Lib.idxFromS_hit s patNames k 0 h he hne]
 omega
theorem patF_miss {s : ByteArray} (hne:∀ j,j<37→patNames.getD j ByteArray.empty≠s):patF s=0:=by
 unfold patF Lib.idxOfS
 rw[Lib.idxFromS_miss s patNames 0 hne]
 rfl
theorem patF_le (s:ByteArray):0≤patF s∧patF s≤37:=by
 have h:=idx_all patNames s
 have h5:patNames.length=37:=rfl
 rw[h5]at h
 unfold patF;omega
set_option maxHeartbeats 1000000 in
set_option maxRecDepth 100000 in
theorem rpattern_any (s:ByteArray) (w:World):Calls Tryz.prog 55 #[.string s] w (IntQ (patF s) w):=by
 go_enter Tryz.func55,Tryz.ntmps55
 obtain⟨y,hy⟩:∃ y,patF s=y:=⟨_,rfl⟩
 rw[hy]
 have HY:=Lib.hid hy
 clear hy
 go_wp2_with fail
 go_loopw [3] (fun io wr=>∃ k:Nat,k≤37∧io=.int .i64 ((k:Int)+1)∧(∀ j,j<k→patNames.getD j ByteArray.empty≠s)∧Since w wr) (fun io _=>38-(intOf io).toNat)
 case atStart=>exact⟨0,by omega,rfl,fun j hj=>by omega,Since.refl _⟩
 case round =>
  obtain⟨k,hk,rfl,hne,hs⟩:=hrel
  have HNE:=Lib.hid hne
  have HS:=Lib.hid hs
  clear hne hs
  by_cases hlt:k<37
  ·obtain⟨z,hz⟩:∃ z,patNames.getD k ByteArray.empty=z:=⟨_,rfl⟩
   have hnm:=rtname_any ((k:Int)+1) wr ⟨by omega,by omega⟩
   rw[patB_at k hlt,hz]at hnm
   have HNM:=Lib.hid hnm
   have HZ:=Lib.hid hz
   clear hnm hz
   go_wp2_with fail
   refine HNM.out.mono ?_
   rintro e1 w1 ⟨rfl,hs1⟩
   have HS1:=Lib.hid (HS.out.trans hs1)
   clear hs1
   by_cases he:z=s
   ·have hq:(z.toList==s.toList)=true:=(Lib.bytes_beq_iff z s).2 he
    have HI:=Lib.hid (patF_hit hlt (HZ.out.trans he) HNE.out)
    obtain rfl:(k:Int)+1=y:=HI.out.symm.trans HY.out
    clear he
    go_wp2
    go_ret
    exact⟨rfl,HS1.out⟩
   ·have hq:(z.toList==s.toList)=false:=(Lib.bytes_beq_false_iff z s).2 he
    have HX:=Lib.hid he
    clear he
    go_wp2
    go_roundw
    case rel=>exact⟨k+1,by omega,by go_num,fun j hj=>by
     by_cases h:j<k
     ·exact HNE.out j h
     ·obtain rfl:j=k:=by omega
      rw[HZ.out];exact HX.out,HS1.out⟩
    case measure=>simp[intOf];omega
  ·obtain rfl:k=37:=by omega
   have HI:=Lib.hid (patF_miss HNE.out)
   obtain rfl:0=y:=HI.out.symm.trans HY.out
   go_wp2
   go_ret
   exact⟨rfl,HS.out⟩
theorem parseT_runL (s:Bs):parseT s=match runL tileSt [] (numd 1 (linesOf s)) with
  | .error x=>⟨[],x.1,x.2⟩
  | .ok t=>⟨t,0,0⟩:=by
 unfold parseT
 rw[goSt_runL tileSt (linesOf s) 0 []]
 rfl
theorem tileSt_len {l t:List DTile} {x : List ByteArray} (h:tileSt l x=.ok t):t.length≤l.length+1:=by
 unfold tileSt at h
 split at h
 ·cases h;omega
 ·split at h
  ·split at h
   ·split at h
    ·split at h
     ·cases h;simp
     ·cases h
    ·cases h
   ·cases h
  ·cases h
theorem runL_ok {σ:Type} {step:σ→List ByteArray→Except Int σ} {s t u:σ} {D : List (List ByteArray × Int)} {i : Nat} {x : List ByteArray} {n : Int} (h:runL step s (D.take i)=.ok t) (hx:D[i]? = some (x,n)) (hs:step t x=.ok u):runL step s (D.take (i+1))=.ok u:=by
 rw[runL_at h hx];show (match step t x with | .error e=>_ | .ok u=>_)=_;rw[hs]
theorem runL_bad {σ:Type} {step:σ→List ByteArray→Except Int σ} {s t:σ} {D : List (List ByteArray × Int)} {i : Nat} {x : List ByteArray} {n e:Int} (h:runL step s (D.take i)=.ok t) (hx:D[i]? = some (x,n)) (hs:step t x=.error e):runL step s D=.error (n,e):=by
 apply runL_stop (i:=i+1)
 rw[runL_at h hx];show (match step t x with | .error e=>_ | .ok u=>_)=_;rw[hs]
theorem wTile_list:wTile.toList=[116,105,108,101]:=by kernel_rfl
theorem not_tile {f : ByteArray} (h:¬ f=wTile):(f.toList==[116,105,108,101])=false:=by have:=(Lib.bytes_beq_false_iff f wTile).2 h;rwa [wTile_list]at this
theorem is_tile {f : ByteArray} (h:f=wTile):(f.toList==[116,105,108,101])=true:=by have:=(Lib.bytes_beq_iff f wTile).2 h;rwa [wTile_list]at this
def TableV (v:Value) (line e:Int):Value:=.agg #[v,.int .i64 line,.int .i64 e]
theorem numW_in (x:ByteArray):In64 (numW x):=⟨by have:=(numW_32 x).1;omega,by have:=(numW_32 x).2;omega⟩
theorem patF_in (x:ByteArray):In64 (patF x):=⟨by have:=(patF_le x).1;omega,by have:=(patF_le x).2;omega⟩
def TlOk (l:List DTile):Prop:=∀ t∈l,In64 t.pat∧In64 t.cost
theorem tiles_own {w : World} {b : Nat} {v : Value} {l : List DTile} (h:OwnRow dtcells 2 79 b w v l) (ho:TlOk l):TilesIn w v l:=row_of_own (f:=dtcells) (fun _=>rfl) h fun x hx=>ho x hx
theorem TlOk.more {l : List DTile} (h:TlOk l) (p c:ByteArray):TlOk (l++[⟨patF p,numW c⟩]):=fun t ht=>by
 rcases List.mem_append.1 ht with h1|h1
 ·exact h t h1
 ·rw[List.mem_singleton.1 h1];exact⟨patF_in p,numW_in c⟩
theorem dtcells_one (t:DTile):∀ u∈dtcells t,u.oneCell'=true:=fun u hu=>by simp[dtcells]at hu;rcases hu with rfl | rfl<;>rfl
def RTableQ (s:ByteArray) (w:World) (e:Ending) (w':World):Prop:=∃ v l line er,e=.returned (TableV v line er)∧TilesIn w' v l∧(⟨l,line,er⟩:TRes)=parseT s.data.toList∧Since w w'
theorem tilesIn_nil (w:World):TilesIn w (.slice none 0 0) []:=.inl ⟨none,rfl,rfl⟩
set_option maxHeartbeats 8000000 in
set_option maxRecDepth 100000 in
theorem rptiles_any (s:ByteArray) (w:World) (hs:s.size≤300000):Calls Tryz.prog 34 #[.string s] w (RTableQ s w):=by
 go_enter Tryz.func34,Tryz.ntmps34
 go_wp2_with fail
 have HR1:=Lib.hid (HeapIs.new w #[.slice none 0 0,.int .i64 0,.int .i64 0] 86)
 have HS1:=Lib.hid ((Since.refl w).alloc (.cells #[.slice none 0 0,.int .i64 0,.int .i64 0] 86))
 refine (rlines_any s _ (by omega)).mono ?_
 rintro e1 w2 ⟨lv,outl,rfl,hli,hld,hs2⟩
 obtain⟨la,lc,hlv,_⟩:=RowIn.shape hli
 obtain⟨ln,hln⟩:∃ n,outl.length=n:=⟨_,rfl⟩
 rw[hln]at hlv
 subst hlv
 obtain⟨nn,hnn⟩:∃ n:Nat,(linesOf s.data.toList).length=n:=⟨_,rfl⟩
 rw[hnn]
 have HR2:=Lib.hid (HR1.out.keep hs2)
 have HS2:=Lib.hid (HS1.out.trans hs2)
 have hlb:ln≤300001:=by have:=linesOf_len s.data.toList;have:=numd_len (linesOf s.data.toList) 1;rw[←hld,List.length_map,hln]at this;rw[bytes_len]at *;omega
 have HLI:=Lib.hid hli
 have HLD:=Lib.hid hld
 have HLN:=Lib.hid hln
 clear hli hld hs2 hln hnn
 obtain⟨qb,hqb⟩:∃ q,w2.heap.size=q:=⟨_,rfl⟩
 have hq0:=HeapIs.new w2 #[.slice none 0 0,.int .i64 0,.int .i64 0] 86
 rw[hqb]at hq0
 have HQ0:=Lib.hid hq0
 have HQB:=Lib.hid hqb
 clear hq0
 go_wp2_with fail
 clear hqb
 go_loopw [6] (fun io wr=>∃ (i:Nat) (tv:Value) (tl:List DTile),io=.int .i64 i∧i≤ln∧HeapIs wr qb #[tv,.int .i64 0,.int .i64 0] 86∧OwnRow dtcells 2 79 w2.heap.size wr tv tl∧runL tileSt [] ((outl.map LnV.d).take i)=.ok tl∧(tl.length≤i∧TlOk tl)∧Since w2 wr) (fun io _=>ln-(intOf io).toNat)
 case atStart=>exact⟨0,_,[],rfl,Nat.zero_le _,HQ0.out,OwnRow.nil _ _ _ _ _,rfl,⟨Nat.le_refl _,fun _ h=>(by cases h)⟩,(Since.refl _).alloc _⟩
 case round =>
  obtain⟨i,tv,tl,rfl,hi,hq,ho,hrun,hfew,hso⟩:=hrel
  obtain⟨ta,tc,e1⟩:=own_shape ho
  obtain⟨kt,hkt⟩:∃ k,tl.length=k:=⟨_,rfl⟩
  rw[hkt]at e1
  subst e1
  have HQ:=Lib.hid hq
  have HO:=Lib.hid ho
  have HRUN:=Lib.hid hrun
  have HOK:=Lib.hid hfew.2
  have hkb:kt≤i:=by rw[←hkt];exact hfew.1
  have HKT:=Lib.hid hkt
  have HSO:=Lib.hid hso
  have HR:=Lib.hid (HR2.out.keep hso)
  have HSW:=Lib.hid (HS2.out.trans hso)
  clear hq ho hrun hfew hso hkt
  by_cases hlt:i<ln
  ·obtain⟨b,off,x,rfl,hb,hx,hcell,hok⟩:=RowIn.at (RowIn.keep LnOk.keep HLI.out HSO.out) (k:=i) (by rw[HLN.out];exact hlt)
   have c0:=hcell 0 (by decide)
   have c1:=hcell 1 (by decide)
   obtain⟨ws,wv,xn⟩:=x
   rw[show lncells ⟨ws,wv,xn⟩=[wv,.int .i64 xn] from rfl]at c0 c1
   rw[Nat.add_zero]at c0
   have c0:wr.cell? ⟨b,off+i*2,none⟩=some wv:=c0
   have c1:wr.cell? ⟨b,off+i*2+1,none⟩=some (.int .i64 xn):=c1
   have hdx:(outl.map LnV.d)[i]? = some (ws,xn):=by rw[List.getElem?_map,hx];rfl
   have hmem:=numd_mem (linesOf s.data.toList) 1 (ws,xn) (by rw[←HLD.out];exact List.mem_of_getElem? hdx)
   obtain⟨f,r,hfr⟩:∃ f r,ws=f::r:=by
    match ws,hmem.2 with
    | f::r,_=>exact⟨f,r,rfl⟩
   subst hfr
   obtain⟨rn,hrn⟩:∃ n,(f::r).length=n:=⟨_,rfl⟩
   obtain⟨wa,wc,e2,hwl⟩:=RowIn.shape (show StrsIn wr wv (f::r) from hok)
   rw[hrn]at e2 hwl
   unfold maxLen at hwl
   subst e2
   have hrn1:0<rn:=by rw[←hrn];simp
   have HRNL:=Lib.hid (show ∀ (w9:World),StrsIn w9 (.slice wa rn wc) (f::r)→∃ bw ow,wa=some ⟨bw,ow,none⟩∧bw<w9.heap.size∧w9.cell? ⟨bw,ow,none⟩=some (.string f)∧f.size≤1000000 from fun w9 h=>by
    obtain⟨b0,o0,x0,h1,h2,h3,h4,h5⟩:=StrsIn.at h (k:=0) (by simp)
    obtain rfl:f=x0:=by simpa using h3
    rw[Nat.add_zero]at h4
    exact⟨b0,o0,h1,h2,h4,h5⟩)
   have HDX:=Lib.hid hdx
   have HKW:=Lib.hid (show StrsIn wr (.slice wa rn wc) (f::r) from hok)
   obtain⟨bw,ow,rfl,hbw,cf,hfs⟩:=HRNL.out wr hok
   have HRN:=Lib.hid hrn
   clear hx hcell hok hdx hmem hrn
   by_cases hf:f=wTile
   ·have hqf:=is_tile hf
    have HF:=Lib.hid hf
    clear hf
    by_cases h3:rn=3
    ·subst h3
     obtain⟨p,c,hr⟩:∃ p c,r=[p,c]:=by
      match r,HRN.out with
      | [p,c],_=>exact⟨p,c,rfl⟩
     subst hr
     have HST:=Lib.hid (show tileSt tl [f,p,c]=if 0<patF p then (if isNum c then .ok (tl++[⟨patF p,numW c⟩]) else .error 71) else .error 72 from by
      show (if f=wTile then _ else _)=_
      rw[if_pos HF.out];exact if_pos rfl)
     obtain⟨b1,o1,x1,e1,_,h1,cp,hps⟩:=StrsIn.at HKW.out (k:=1) (by simp)
     cases e1
     obtain rfl:p=x1:=by simpa using h1
     obtain⟨b2,o2,x2,e2,_,h2,cc,hcs⟩:=StrsIn.at HKW.out (k:=2) (by simp)
     cases e2
     obtain rfl:c=x2:=by simpa using h2
     clear h1 h2
     obtain⟨pn,hpn⟩:∃ n,patF p=n:=⟨_,rfl⟩
     have hpat:=fun W=>rpattern_any p W
     rw[hpn]at hpat
     have HPAT:=Lib.hid hpat
     have hple:=patF_le p
     rw[hpn]at hple
     have HPN:=Lib.hid hpn
     clear hpat hpn
     have HPARX:=Lib.hid (fun W=>(show Calls Tryz.prog 56 #[.string c] W fun e w'=>e=.returned (.tuple #[.int .i32 (numW c),.bool (isNum c)])∧Since W w' from rparse_any c W hcs))
     obtain⟨nv,hnv⟩:∃ n,numW c=n:=⟨_,rfl⟩
     obtain⟨ok,hok⟩:∃ b,isNum c=b:=⟨_,rfl⟩
     rw[hnv,hok]at HPARX
     have hn1:=(numW_32 c).1
     have hn2:=(numW_32 c).2
     rw[hnv]at hn1 hn2
     have HNV:=Lib.hid hnv
     have HOKC:=Lib.hid hok
     clear hnv hok hps hcs hfs
     go_wp2_with fail
     refine (HPAT.out _).mono ?_
     rintro e4 w4 ⟨rfl,hs4⟩
     have hs4:Since _ _:=hs4
     have HXB:=Lib.hid (HeapIs.keep (HeapIs.new wr #[.int .i64 0,.int .i64 0] 79) hs4)
     have hxl:=HXB.out.lt
     have hsr:Since wr w4:=((Since.refl wr).alloc _).trans hs4
     have d0:w4.cell? ⟨b,off+i*2+1,none⟩=some (.int .i64 xn):=(hsr.cell (p:=⟨b,off+i*2+1,none⟩) hb).trans c1
     have d1:w4.cell? ⟨bw,ow+1,none⟩=some (.string p):=(hsr.cell (p:=⟨bw,ow+1,none⟩) hbw).trans cp
     have d2:w4.cell? ⟨bw,ow+2,none⟩=some (.string c):=(hsr.cell (p:=⟨bw,ow+2,none⟩) hbw).trans cc
     have hb4:=Nat.lt_of_lt_of_le hb hsr.size
     have hbw4:=Nat.lt_of_lt_of_le hbw hsr.size
     have HSR:=Lib.hid hsr
     have HBB:=Lib.hid hb
     clear c0 c1 cf cp cc hb hbw hsr hs4
     by_cases hp0:0<pn
     ·have hpq:(pn==0)=false:=by rw[beq_eq_false_iff_ne];omega
      go_wp2_with fail
      refine (HPARX.out _).mono ?_
      rintro e5 w5 ⟨rfl,hs5⟩
      have HXB5:=Lib.hid (HXB.out.keep hs5)
      have hxl5:=HXB5.out.lt
      have f0:w5.cell? ⟨b,off+i*2+1,none⟩=some (.int .i64 xn):=(hs5.cell (p:=⟨b,off+i*2+1,none⟩) hb4).trans d0
      have f1:w5.cell? ⟨bw,ow+1,none⟩=some (.string p):=(hs5.cell (p:=⟨bw,ow+1,none⟩) hbw4).trans d1
      have hb5:=Nat.lt_of_lt_of_le hb4 hs5.size
      have hbw5:=Nat.lt_of_lt_of_le hbw4 hs5.size
      have HS5:=Lib.hid (HSR.out.trans hs5)
      clear d0 d1 d2 hb4 hbw4 hxl hs5
      go_wp2_with fail
      refine (HPAT.out _).mono ?_
      rintro e6 w6 ⟨rfl,hs6⟩
      have hs6:Since w5 w6:=hs6
      have hx6:=HXB5.out.keep hs6
      have HXB6:=Lib.hid hx6
      have hxl6:=hx6.lt
      have hxf:=hx6.frozen
      have g0:w6.cell? ⟨b,off+i*2+1,none⟩=some (.int .i64 xn):=(hs6.cell (p:=⟨b,off+i*2+1,none⟩) hb5).trans f0
      have hb6:=Nat.lt_of_lt_of_le hb5 hs6.size
      have HS6:=Lib.hid (HS5.out.trans hs6)
      have HWL:=Lib.hid (show wr.heap.size≤w6.heap.size from HS6.out.size)
      clear f0 f1 hb5 hbw5 hxl5 hs6 hx6 hxf
      obtain⟨xb,hxb⟩:∃ q,wr.heap.size=q:=⟨_,rfl⟩
      have HXBE:=Lib.hid hxb
      rw[hxb]at HXB6 hxl6
      have HBX:=Lib.hid (show b≠xb from fun e=>by have:=HBB.out;rw[hxb,e]at this;exact Nat.lt_irrefl _ this)
      go_upto_region 11 with (refine wpList_store_row rfl 79 _ _ rfl xb #[.int .i64 pn,.int .i64 nv] rfl rfl 79 _ HXB6.out (by kernel_rfl) rfl (by rw[←Array.all_toList];rfl) ?_;have hz6:=put_block HXB6.out #[.int .i64 pn,.int .i64 nv];have ht6:=put_turn (S:=fun q=>q=xb) (w:=w6) rfl #[.int .i64 pn,.int .i64 nv];generalize w6.setRow xb #[.int .i64 pn,.int .i64 nv]=w7 at *;have hbx:=HBX.out;have g1:w7.cell? ⟨b,off+i*2+1,none⟩=some (.int .i64 xn):=(ht6.cell (p:=⟨b,off+i*2+1,none⟩) hb6 hbx).trans g0;have hb7:=Nat.lt_of_lt_of_le hb6 ht6.size;have HZ7:=Lib.hid (show HeapIs w7 xb #[.int .i64 pn,.int .i64 nv] 79 from hz6);have j0:w7.cell? ⟨xb,0,none⟩=some (.int .i64 pn):=HZ7.out.cell 0;have j1:w7.cell? ⟨xb,1,none⟩=some (.int .i64 nv):=HZ7.out.cell 1;have jl:=HZ7.out.lt;have HT7:=Lib.hid ht6;clear ht6 hz6 g0 hb6)
      have HW6:=Lib.hid (HSO.out.trans HS6.out)
      have hxw:=HSO.out.size
      rw[HXBE.out]at hxw
      have HW7:=Lib.hid (HT7.out.toSince HW6.out fun q hq e=>by omega)
      have HR7:=Lib.hid (HR2.out.keep HW7.out)
      have HSW7:=Lib.hid (HS2.out.trans HW7.out)
      have hqx:qb<xb:=by rw[←HXBE.out];exact HQ.out.lt
      have hq7:=(HQ.out.keep HS6.out).turn HT7.out (by omega)
      have ho7:=own_turn (OwnRow.keep HO.out HS6.out) HT7.out (fun q hq e=>by have:=(World.ownsRow.lt HO.out q hq).2;rw[HXBE.out]at this;omega)
      have HQ7:=Lib.hid hq7
      have HO7:=Lib.hid ho7
      have m0:w7.cell? ⟨qb,0,none⟩=some (.slice ta kt tc):=hq7.cell 0
      have ml:=hq7.lt
      clear hq7 ho7 hqx hxw
      cases ok with
      | false =>
       have HRES:=Lib.hid (runL_bad HRUN.out HDX.out (show tileSt tl [f,p,c]=.error 71 from by rw[HST.out,HPN.out,if_pos hp0,if_neg (by rw[HOKC.out];simp)]))
       go_wp2_with (refine wpList_store_row rfl 86 _ _ rfl w.heap.size #[.slice none 0 0,.int .i64 xn,.int .i64 71] rfl rfl 86 _ HR7.out (by kernel_rfl) rfl (by rw[←Array.all_toList];rfl) ?_)
       have hb5:HeapIs (World.setRow w7 w.heap.size #[.slice none 0 0,.int .i64 xn,.int .i64 71]) w.heap.size #[.slice none 0 0,.int .i64 xn,.int .i64 71] 86:=put_block HR7.out _
       have hs5:Since w (World.setRow w7 w.heap.size #[.slice none 0 0,.int .i64 xn,.int .i64 71]):=since_setRow HSW7.out (Nat.le_refl _) _
       generalize World.setRow w7 w.heap.size #[.slice none 0 0,.int .i64 xn,.int .i64 71]=w9 at *
       have HRS:=Lib.hid (show (⟨[],xn,71⟩:TRes)=parseT s.data.toList from by rw[parseT_runL,←HLD.out,HRES.out])
       have k0:=hb5.cell 0
       have k1:=hb5.cell 1
       have k2:=hb5.cell 2
       have kl:=hb5.lt
       have HSF:=Lib.hid hs5
       clear hb5 hs5
       go_wp2
       exact bodyPost_ret (v:=.agg #[.slice none 0 0,.int .i64 xn,.int .i64 71]) (by simp[results,Tryz.results34,go_sem,k0,k1,k2]) rfl ⟨_,[],xn,71,rfl,tilesIn_nil _,HRS.out,HSF.out⟩
      | true =>
       have HRES:=Lib.hid (runL_ok HRUN.out HDX.out (show tileSt tl [f,p,c]=.ok (tl++[(⟨pn,nv⟩:DTile)]) from by rw[HST.out,HPN.out,HNV.out,if_pos hp0,if_pos HOKC.out]))
       have hal:=(Since.refl w7).alloc (.cells #[.int .i64 pn,.int .i64 nv] 79)
       have HNB:=Lib.hid (HeapIs.new w7 #[.int .i64 pn,.int .i64 nv] 79)
       have HQ8:=Lib.hid (HQ7.out.keep hal)
       have HO8:=Lib.hid (OwnRow.keep HO7.out hal)
       have HW8:=Lib.hid (HW7.out.trans hal)
       obtain⟨km,hkm⟩:∃ k,(tl++[(⟨pn,nv⟩:DTile)]).length=k:=⟨_,rfl⟩
       have HKM:=Lib.hid hkm
       have HKB:=Lib.hid (show km≤i+1 from by rw[←hkm,List.length_append,HKT.out];simp;omega)
       clear hal hkm
       go_wp2_with (at_builtin;refine wpList_append_one2 dtcells 2 (fun _=>rfl) (by decide) rfl _ _ 25 rfl 79 (.agg #[.int .i64 0,.int .i64 0]) 16 Tryz.underlying25 (by kernel_rfl) rfl (.slice ta kt tc) tl ⟨pn,nv⟩ _ 1 _ rfl rfl HO8.out HNB.out (dtcells_one _) (by rw[HKT.out];unfold maxLen;omega) (by rw[HKT.out];omega) HW8.out.size ?_;intro v9 w9 ho9 ht9 hn9;obtain⟨va,vc,hv9⟩:=own_shape ho9;rw[HKM.out]at hv9;subst hv9;have hq9:=HQ8.out.turn ht9 (own_not HO8.out HQ8.out (by decide));have n0:w9.cell? ⟨qb,0,none⟩=some (.slice ta kt tc):=hq9.cell 0;have nl:=hq9.lt;have nf:=hq9.frozen;have HQ9:=Lib.hid hq9;have HO9:=Lib.hid ho9;have HT9:=Lib.hid ht9;clear hq9 ho9 ht9 hn9)
       have hset:Turn (fun q=>q=qb) w9 (w9.setCell ⟨qb,0,none⟩ (.slice va km vc)):=(Turn.refl (fun q=>q=qb) w9).setCell (p:=⟨qb,0,none⟩) rfl _
       have hq10:=HQ9.out.set 0 (.slice va km vc)
       have ho10:=own_turn HO9.out hset fun q hq e=>own_not HO9.out HQ9.out (by decide) (by rw[←e];exact hq)
       have hw9:=HT9.out.toSince HW8.out fun q hq hr=>by have:=(World.ownsRow.lt HO8.out q hr).1;omega
       have hw10:=hset.toSince hw9 fun q hq e=>by rw[e,←HQB.out]at hq;exact Nat.lt_irrefl _ hq
       have HF:=Lib.hid (And.intro hq10 (And.intro ho10 hw10))
       clear hset hq10 ho10 hw9 hw10
       go_roundw
       case rel=>exact⟨i+1,_,tl++[(⟨pn,nv⟩:DTile)],by go_num,by omega,HF.out.1,HF.out.2.1,HRES.out,⟨by rw[HKM.out];exact HKB.out,by have:=HOK.out.more p c;rwa [HPN.out,HNV.out]at this⟩,HF.out.2.2⟩
       case measure=>simp[intOf];omega
     ·obtain rfl:pn=0:=by omega
      have HR4:=Lib.hid (HR.out.keep HSR.out)
      have HSW4:=Lib.hid (HSW.out.trans HSR.out)
      have HRES:=Lib.hid (runL_bad HRUN.out HDX.out (show tileSt tl [f,p,c]=.error 72 from by rw[HST.out,HPN.out,if_neg (by omega)]))
      go_wp2_with (refine wpList_store_row rfl 86 _ _ rfl w.heap.size #[.slice none 0 0,.int .i64 xn,.int .i64 72] rfl rfl 86 _ HR4.out (by kernel_rfl) rfl (by rw[←Array.all_toList];rfl) ?_)
      have hb5:HeapIs (World.setRow w4 w.heap.size #[.slice none 0 0,.int .i64 xn,.int .i64 72]) w.heap.size #[.slice none 0 0,.int .i64 xn,.int .i64 72] 86:=put_block HR4.out _
      have hs5:Since w (World.setRow w4 w.heap.size #[.slice none 0 0,.int .i64 xn,.int .i64 72]):=since_setRow HSW4.out (Nat.le_refl _) _
      generalize World.setRow w4 w.heap.size #[.slice none 0 0,.int .i64 xn,.int .i64 72]=w9 at *
      have HRS:=Lib.hid (show (⟨[],xn,72⟩:TRes)=parseT s.data.toList from by rw[parseT_runL,←HLD.out,HRES.out])
      have k0:=hb5.cell 0
      have k1:=hb5.cell 1
      have k2:=hb5.cell 2
      have kl:=hb5.lt
      have HSF:=Lib.hid hs5
      clear hb5 hs5
      go_wp2
      exact bodyPost_ret (v:=.agg #[.slice none 0 0,.int .i64 xn,.int .i64 72]) (by simp[results,Tryz.results34,go_sem,k0,k1,k2]) rfl ⟨_,[],xn,72,rfl,tilesIn_nil _,HRS.out,HSF.out⟩
    ·have h3q:((rn:Int)==3)=false:=by rw[beq_eq_false_iff_ne];omega
     have HN3:=Lib.hid h3
     have HAL:=Lib.hid ((Since.refl wr).alloc (.cells #[.int .i64 0,.int .i64 0] 79))
     have HR4:=Lib.hid (HR.out.keep HAL.out)
     have HSW4:=Lib.hid (HSW.out.trans HAL.out)
     have HRES:=Lib.hid (runL_bad HRUN.out HDX.out (show tileSt tl (f::r)=.error 70 from by show (if f=wTile then _ else _)=_;rw[if_pos HF.out];exact if_neg (fun e=>HN3.out (by rw[←HRN.out,List.length_cons,e]))))
     clear h3
     go_wp2_with (refine wpList_store_row rfl 86 _ _ rfl w.heap.size #[.slice none 0 0,.int .i64 xn,.int .i64 70] rfl rfl 86 _ HR4.out (by kernel_rfl) rfl (by rw[←Array.all_toList];rfl) ?_)
     have hb5:HeapIs (World.setRow (wr.alloc (.cells #[.int .i64 0,.int .i64 0] 79)) w.heap.size #[.slice none 0 0,.int .i64 xn,.int .i64 70]) w.heap.size #[.slice none 0 0,.int .i64 xn,.int .i64 70] 86:=put_block HR4.out _
     have hs5:Since w (World.setRow (wr.alloc (.cells #[.int .i64 0,.int .i64 0] 79)) w.heap.size #[.slice none 0 0,.int .i64 xn,.int .i64 70]):=since_setRow HSW4.out (Nat.le_refl _) _
     generalize World.setRow (wr.alloc (.cells #[.int .i64 0,.int .i64 0] 79)) w.heap.size #[.slice none 0 0,.int .i64 xn,.int .i64 70]=w9 at *
     have HRS:=Lib.hid (show (⟨[],xn,70⟩:TRes)=parseT s.data.toList from by rw[parseT_runL,←HLD.out,HRES.out])
     have k0:=hb5.cell 0
     have k1:=hb5.cell 1
     have k2:=hb5.cell 2
     have kl:=hb5.lt
     have HSF:=Lib.hid hs5
     clear hb5 hs5
     go_wp2
     exact bodyPost_ret (v:=.agg #[.slice none 0 0,.int .i64 xn,.int .i64 70]) (by simp[results,Tryz.results34,go_sem,k0,k1,k2]) rfl ⟨_,[],xn,70,rfl,tilesIn_nil _,HRS.out,HSF.out⟩
   ·have hqf:=not_tile hf
    have HF:=Lib.hid hf
    have HAL:=Lib.hid ((Since.refl wr).alloc (.cells #[.int .i64 0,.int .i64 0] 79))
    have HR4:=Lib.hid (HR.out.keep HAL.out)
    have HSW4:=Lib.hid (HSW.out.trans HAL.out)
    have HRES:=Lib.hid (runL_bad HRUN.out HDX.out (show tileSt tl (f::r)=.error 72 from by exact if_neg HF.out))
    clear hf
    go_wp2_with (refine wpList_store_row rfl 86 _ _ rfl w.heap.size #[.slice none 0 0,.int .i64 xn,.int .i64 72] rfl rfl 86 _ HR4.out (by kernel_rfl) rfl (by rw[←Array.all_toList];rfl) ?_)
    have hb5:HeapIs (World.setRow (wr.alloc (.cells #[.int .i64 0,.int .i64 0] 79)) w.heap.size #[.slice none 0 0,.int .i64 xn,.int .i64 72]) w.heap.size #[.slice none 0 0,.int .i64 xn,.int .i64 72] 86:=put_block HR4.out _
    have hs5:Since w (World.setRow (wr.alloc (.cells #[.int .i64 0,.int .i64 0] 79)) w.heap.size #[.slice none 0 0,.int .i64 xn,.int .i64 72]):=since_setRow HSW4.out (Nat.le_refl _) _
    generalize World.setRow (wr.alloc (.cells #[.int .i64 0,.int .i64 0] 79)) w.heap.size #[.slice none 0 0,.int .i64 xn,.int .i64 72]=w9 at *
    have HRS:=Lib.hid (show (⟨[],xn,72⟩:TRes)=parseT s.data.toList from by rw[parseT_runL,←HLD.out,HRES.out])
    have k0:=hb5.cell 0
    have k1:=hb5.cell 1
    have k2:=hb5.cell 2
    have kl:=hb5.lt
    have HSF:=Lib.hid hs5
    clear hb5 hs5
    go_wp2
    exact bodyPost_ret (v:=.agg #[.slice none 0 0,.int .i64 xn,.int .i64 72]) (by simp[results,Tryz.results34,go_sem,k0,k1,k2]) rfl ⟨_,[],xn,72,rfl,tilesIn_nil _,HRS.out,HSF.out⟩
  ·obtain rfl:ln=i:=by omega
   have hrun:=HRUN.out
   rw[List.take_of_length_le (by rw[List.length_map,HLN.out];exact Nat.le_refl _),HLD.out]at hrun
   have HRS:=Lib.hid (show (⟨tl,0,0⟩:TRes)=parseT s.data.toList from by rw[parseT_runL,hrun])
   have c0:wr.cell? ⟨qb,0,none⟩=some (.slice ta kt tc):=HQ.out.cell 0
   have c1:wr.cell? ⟨qb,1,none⟩=some (.int .i64 0):=HQ.out.cell 1
   have c2:wr.cell? ⟨qb,2,none⟩=some (.int .i64 0):=HQ.out.cell 2
   have hql:=HQ.out.lt
   have HTI:=Lib.hid (tiles_own (own_turn HO.out (put_turn (S:=fun q=>q=w.heap.size) (w:=wr) rfl #[.slice ta kt tc,.int .i64 0,.int .i64 0]) fun q hq e=>by have h1:=(World.ownsRow.lt HO.out q hq).1;have h2:=HR2.out.lt;omega) HOK.out)
   clear hrun
   go_wp2_with (refine wpList_store_row rfl 86 _ _ rfl w.heap.size #[.slice ta kt tc,.int .i64 0,.int .i64 0] rfl rfl 86 _ HR.out (by kernel_rfl) rfl (by rw[←Array.all_toList];rfl) ?_)
   have hb5:HeapIs (World.setRow wr w.heap.size #[.slice ta kt tc,.int .i64 0,.int .i64 0]) w.heap.size #[.slice ta kt tc,.int .i64 0,.int .i64 0] 86:=put_block HR.out _
   have hs5:Since w (World.setRow wr w.heap.size #[.slice ta kt tc,.int .i64 0,.int .i64 0]):=since_setRow HSW.out (Nat.le_refl _) _
   have hti:=HTI.out
   clear HTI
   generalize World.setRow wr w.heap.size #[.slice ta kt tc,.int .i64 0,.int .i64 0]=w9 at *
   have k0:=hb5.cell 0
   have k1:=hb5.cell 1
   have k2:=hb5.cell 2
   have kl:=hb5.lt
   have HSF:=Lib.hid hs5
   have HTI:=Lib.hid hti
   clear hb5 hs5 hti
   go_wp2
   exact bodyPost_ret (v:=.agg #[.slice ta kt tc,.int .i64 0,.int .i64 0]) (by simp[results,Tryz.results34,go_sem,k0,k1,k2]) rfl ⟨_,tl,0,0,rfl,HTI.out,HRS.out,HSF.out⟩
end Go.Proofs.YtmhojfpidedjeaaGreatDoor
