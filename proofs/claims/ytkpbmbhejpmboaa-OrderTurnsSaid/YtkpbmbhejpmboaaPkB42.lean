/- Plain: in how many orders what is left can stand, by masks. No program here. -/
import Derived.Test.YtkpbmbhejpmboaaPkB00
namespace Go.Proofs.Ytkpbmbhejpmboaa
open Go.RowKit
def unsetI (g i:Nat):Bool:=bits .and .i64 ((g:Int) / 2 ^ i) 1==0
def readyI (bh:List Int) (g i:Nat):Bool:=bits .andNot .i64 (bh.getD i 0) (g:Int)==0
theorem and_one (x:Nat) (h:x<2 ^ 63):bits .and .i64 (x:Int) 1=((x % 2:Nat):Int):=by
 have e:bits .and .i64 (x:Int) 1=IntKind.i64.wrap ((BitVec.ofInt 64 (x:Int) &&& BitVec.ofInt 64 1).toNat:Int):=rfl
 rw[e,BitVec.toNat_and,BitVec.ofInt_natCast,BitVec.toNat_ofNat]
 have e1:(BitVec.ofInt 64 1).toNat=2 ^ 1-1:=by decide
 rw[e1,Nat.and_two_pow_sub_one_eq_mod,Nat.mod_eq_of_lt (by omega:x<2 ^ 64)]
 have:x % 2 ^ 1=x % 2:=by rw[Nat.pow_one]
 rw[this]
 exact IntWalk.i64_in _ (by omega)
theorem unsetI_eq (g i:Nat) (h:g<2 ^ 62):unsetI g i = !g.testBit i:=by
 unfold unsetI
 have e:((g:Int) / 2 ^ i)=((g / 2 ^ i:Nat):Int):=by push_cast;rfl
 have hlt:g / 2 ^ i<2 ^ 63:=Nat.lt_of_le_of_lt (Nat.div_le_self _ _) (by omega)
 rw[e,and_one _ hlt,Nat.testBit_eq_decide_div_mod_eq]
 rcases Nat.mod_two_eq_zero_or_one (g / 2 ^ i) with h|h<;>rw[h]<;>rfl
theorem or_eq (g i:Nat) (hg:g<2 ^ 13) (hi:i<13):bits .or .i64 (g:Int) (2 ^ i)=((g ||| 2 ^ i:Nat):Int):=by
 have e:bits .or .i64 (g:Int) (2 ^ i)=IntKind.i64.wrap ((BitVec.ofInt 64 (g:Int) ||| BitVec.ofInt 64 (2 ^ i)).toNat:Int):=rfl
 have e2:(2:Int) ^ i=((2 ^ i:Nat):Int):=by push_cast;rfl
 have hp:2 ^ i<2 ^ 13:=Nat.pow_lt_pow_right (by decide) hi
 have hor:g ||| 2 ^ i<2 ^ 13:=Nat.or_lt_two_pow hg hp
 rw[e,e2,BitVec.toNat_or,BitVec.ofInt_natCast,BitVec.ofInt_natCast,BitVec.toNat_ofNat,BitVec.toNat_ofNat,Nat.mod_eq_of_lt (by omega:g<2 ^ 64),Nat.mod_eq_of_lt (by omega:2 ^ i<2 ^ 64)]
 exact IntWalk.i64_in _ (by omega)
def unset (n g:Nat):Nat:=((List.range n).filter fun i=>!g.testBit i).length
theorem unset_or (n g i:Nat) (hi:i<n) (h:g.testBit i=false):unset n (g ||| 2 ^ i)+1=unset n g:=by
 unfold unset
 have e:((List.range n).filter fun j=>!(g ||| 2 ^ i).testBit j)=((List.range n).filter fun j=>!g.testBit j).filter fun j=>j != i:=by
  rw[List.filter_filter]
  refine List.filter_congr fun j _=>?_
  rw[Nat.testBit_or,Nat.testBit_two_pow]
  by_cases hji:i=j
  ·subst hji;simp
  ·have hji2:(j != i)=true:=by simpa using fun e=>hji e.symm
   rw[hji2,decide_eq_false hji,Bool.or_false,Bool.true_and]
 rw[e]
 have hn:((List.range n).filter fun j=>!g.testBit j).Nodup:=List.Pairwise.filter _ List.nodup_range
 have hm:i∈(List.range n).filter fun j=>!g.testBit j:=by rw[List.mem_filter];exact⟨List.mem_range.2 hi,by simp[h]⟩
 generalize ((List.range n).filter fun j=>!g.testBit j)=L at *
 rw[←List.Nodup.erase_eq_filter hn,List.length_erase_of_mem hm]
 have:=List.length_pos_of_mem hm
 omega
theorem unset_full (n g:Nat) (hg:g<2 ^ n):unset n g=0↔g=2 ^ n-1:=by
 unfold unset
 rw[List.length_eq_zero_iff,List.filter_eq_nil_iff]
 constructor
 ·intro h
  apply Nat.eq_of_testBit_eq
  intro i
  rw[Nat.testBit_two_pow_sub_one]
  by_cases hi:i<n
  ·have:=h i (List.mem_range.2 hi);simpa [hi]using this
  ·rw[Nat.testBit_lt_two_pow (Nat.lt_of_lt_of_le hg (Nat.pow_le_pow_right (by decide) (by omega)))];simp[hi]
 ·intro h i hi
  rw[h,Nat.testBit_two_pow_sub_one]
  have:=List.mem_range.1 hi
  simp[this]
def psum (t:Nat→Int):Nat→Int
 | 0=>0
 | k+1=>psum t k+t k
def cntF (bh:List Int) (n:Nat):Nat→Nat→Int
 | 0,_=>1
 | f+1,g=>psum (fun i=>if unsetI g i&&readyI bh g i then cntF bh n f (g ||| 2 ^ i) else 0) n
def cnt (bh:List Int) (n g:Nat):Int:=cntF bh n (unset n g) g
theorem psum_congr {t u:Nat→Int}:∀ k,(∀ i,i<k→t i=u i)→psum t k=psum u k
 | 0,_=>rfl
 | k+1,h=>by
  show psum t k+t k=psum u k+u k
  rw[psum_congr k fun i hi=>h i (by omega),h k (by omega)]
def term (bh:List Int) (n g i:Nat):Int:=if unsetI g i&&readyI bh g i then cnt bh n (g ||| 2 ^ i) else 0
theorem cnt_full (bh:List Int) (n:Nat):cnt bh n (2 ^ n-1)=1:=by
 have hp:0<2 ^ n:=Nat.pow_pos (by decide)
 have:=(unset_full n (2 ^ n-1) (by omega)).2 rfl
 unfold cnt;rw[this];rfl
theorem cnt_eq (bh:List Int) (n g:Nat) (hn:n≤13) (hg:g<2 ^ n) (h:g≠2 ^ n-1):cnt bh n g=psum (term bh n g) n:=by
 have hu:unset n g≠0:=fun e=>h ((unset_full n g hg).1 e)
 obtain⟨f,hf⟩:∃ f,unset n g=f+1:=⟨unset n g-1,by omega⟩
 unfold cnt
 rw[hf]
 have hg2:g<2 ^ 62:=Nat.lt_of_lt_of_le hg (Nat.pow_le_pow_right (by decide) (by omega))
 refine psum_congr n fun i hi=>?_
 unfold term
 rw[unsetI_eq g i hg2]
 by_cases hb:g.testBit i=true
 ·simp[hb]
 ·have hb:g.testBit i=false:=by simpa using hb
  have hu2:=unset_or n g i hi hb
  rw[hb]
  simp only[Bool.not_false,Bool.true_and]
  unfold cnt
  rw[show unset n (g ||| 2 ^ i)=f from by omega]
theorem psum_bound {t : Nat→Int} {B : Int}:∀ k:Nat,(∀ i,i<k→0≤t i∧t i≤B)→0≤psum t k∧psum t k≤(k:Int)*B
 | 0,_=>by simp[psum]
 | k+1,h=>by
  have h1:=psum_bound k fun i hi=>h i (by omega)
  have h2:=h k (by omega)
  show 0≤psum t k+t k∧psum t k+t k≤((k+1:Nat):Int)*B
  have e:((k+1:Nat):Int)*B=(k:Int)*B+B:=by push_cast;rw[Int.add_mul,Int.one_mul]
  omega
theorem cntF_bound (bh:List Int) (n:Nat) (hn:n≤13):∀ (f g:Nat),0≤cntF bh n f g∧cntF bh n f g≤13 ^ f
 | 0,_=>by simp[cntF]
 | f+1,g=>by
  have h:=psum_bound (t:=fun i=>if unsetI g i&&readyI bh g i then cntF bh n f (g ||| 2 ^ i) else 0) (B:=13 ^ f) n (fun i _=>by
   have:=cntF_bound bh n hn f (g ||| 2 ^ i)
   split<;>omega)
  refine⟨h.1,Int.le_trans h.2 ?_⟩
  rw[Int.pow_succ,Int.mul_comm]
  exact Int.mul_le_mul_of_nonneg_left (by omega) (Int.le_of_lt (Int.pow_pos (by decide)))
theorem unset_le (n g:Nat):unset n g≤n:=by
 unfold unset;have:=List.length_filter_le (fun i=>!g.testBit i) (List.range n);simpa using this
theorem cnt_bound (bh:List Int) (n g:Nat) (hn:n≤12):0≤cnt bh n g∧cnt bh n g≤23298085122481:=by
 have h:=cntF_bound bh n (by omega) (unset n g) g
 refine⟨h.1,Int.le_trans h.2 ?_⟩
 have h2:(13:Int) ^ unset n g≤13 ^ 12:=by
  have:(13:Nat) ^ unset n g≤13 ^ 12:=Nat.pow_le_pow_right (by decide) (Nat.le_trans (unset_le n g) hn)
  exact_mod_cast this
 have h3:(13:Int) ^ 12=23298085122481:=by decide
 omega
theorem term_bound (bh:List Int) (n g i:Nat) (hn:n≤12):0≤term bh n g i∧term bh n g i≤23298085122481:=by
 unfold term;split
 ·exact cnt_bound bh n _ hn
 ·omega
end Go.Proofs.Ytkpbmbhejpmboaa
