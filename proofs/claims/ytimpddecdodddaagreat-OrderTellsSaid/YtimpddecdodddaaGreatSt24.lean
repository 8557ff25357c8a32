import Derived.Test.YtimpddecdodddaaGreatSt00
namespace Go.Proofs.YtimpddecdodddaaGreat
open Go.RowKit
def W8 (g i:Nat):Bool:=bits .and .i64 ((g:Int) / 2 ^ i) 1==0
def readyI (bh:List Int) (g i:Nat):Bool:=bits .andNot .i64 (bh.getD i 0) (g:Int)==0
theorem ZeH (x:Nat) (h:x<2 ^ 63):bits .and .i64 (x:Int) 1=((x % 2:Nat):Int):=by
 have e:bits .and .i64 (x:Int) 1=IntKind.i64.wrap ((BitVec.ofInt 64 (x:Int) &&& BitVec.ofInt 64 1).toNat:Int):=rfl;rw[e,BitVec.toNat_and,BitVec.ofInt_natCast,BitVec.toNat_ofNat];have e1:(BitVec.ofInt 64 1).toNat=2 ^ 1-1:=zaJ
 rw[e1,Nat.and_two_pow_sub_one_eq_mod,Nat.mod_eq_of_lt (by omega:x<2 ^ 64)];have:x % 2 ^ 1=x % 2:=by rw[Nat.pow_one]
 rw[this];exact IntWalk.i64_in _ zaK
theorem QA (g i:Nat) (h:g<2 ^ 62):W8 g i = !g.testBit i:=by
 unfold W8;have e:((g:Int) / 2 ^ i)=((g / 2 ^ i:Nat):Int):=by push_cast;rfl
 have ha:g / 2 ^ i<2 ^ 63:=Nat.lt_of_le_of_lt (Nat.div_le_self _ _) zaK;rw[e,ZeH _ ha,Nat.testBit_eq_decide_div_mod_eq];rcases Nat.mod_two_eq_zero_or_one (g / 2 ^ i) with h|h<;>rw[h]<;>rfl
theorem Zfr (g i:Nat) (hg:g<2 ^ 13) (hi:i<13):bits .or .i64 (g:Int) (2 ^ i)=((g ||| 2 ^ i:Nat):Int):=by
 have e:bits .or .i64 (g:Int) (2 ^ i)=IntKind.i64.wrap ((BitVec.ofInt 64 (g:Int) ||| BitVec.ofInt 64 (2 ^ i)).toNat:Int):=rfl;have e2:(2:Int) ^ i=((2 ^ i:Nat):Int):=by push_cast;rfl
 have hp:2 ^ i<2 ^ 13:=Nat.pow_lt_pow_right zaJ hi;have ha:g ||| 2 ^ i<2 ^ 13:=Nat.or_lt_two_pow hg hp;rw[e,e2,BitVec.toNat_or,BitVec.ofInt_natCast,BitVec.ofInt_natCast,BitVec.toNat_ofNat,BitVec.toNat_ofNat,Nat.mod_eq_of_lt (by omega:g<2 ^ 64),Nat.mod_eq_of_lt (by omega:2 ^ i<2 ^ 64)];exact IntWalk.i64_in _ zaK
def Xq (n g:Nat):Nat:=((List.range n).filter fun i=>!g.testBit i).length
theorem Zam (n g i:Nat) (hi:i<n) (h:g.testBit i=false):Xq n (g ||| 2 ^ i)+1=Xq n g:=by
 unfold Xq;have e:((List.range n).filter fun j=>!(g ||| 2 ^ i).testBit j)=((List.range n).filter fun j=>!g.testBit j).filter fun j=>j != i:=by
  rw[List.filter_filter];refine List.filter_congr fun j _=>?_
  rw[Nat.testBit_or,Nat.testBit_two_pow];by_cases ha:i=j
  ·subst ha;simp
  ·have hb:(j != i)=true:=by simpa using fun e=>ha e.symm
   rw[hb,decide_eq_false ha,Bool.or_false,Bool.true_and]
 rw[e];have hn:((List.range n).filter fun j=>!g.testBit j).Nodup:=List.Pairwise.filter _ List.nodup_range
 have hm:i∈(List.range n).filter fun j=>!g.testBit j:=by rw[List.mem_filter];exact⟨List.mem_range.2 hi,by simp[h]⟩
 generalize ((List.range n).filter fun j=>!g.testBit j)=L at *
 rw[←List.Nodup.erase_eq_filter hn,List.length_erase_of_mem hm];have:=List.length_pos_of_mem hm;omega
theorem VO (n g:Nat) (hg:g<2 ^ n):Xq n g=0↔g=2 ^ n-1:=by
 unfold Xq;rw[List.length_eq_zero_iff,List.filter_eq_nil_iff];constructor
 ·intro h;apply Nat.eq_of_testBit_eq
  intro i;rw[Nat.testBit_two_pow_sub_one];by_cases hi:i<n
  ·have:=h i (List.mem_range.2 hi);simpa [hi]using this
  ·rw[Nat.testBit_lt_two_pow (Nat.lt_of_lt_of_le hg (Nat.pow_le_pow_right zaJ zaK))];simp[hi]
 ·intro h i hi;rw[h,Nat.testBit_two_pow_sub_one];have:=List.mem_range.1 hi;simp[this]
def XI (t:Nat→Int):Nat→Int
 | 0=>0
 | k+1=>XI t k+t k
def cntF (bh:List Int) (n:Nat):Nat→Nat→Int
 | 0,_=>1
 | f+1,g=>XI (fun i=>if W8 g i&&readyI bh g i then cntF bh n f (g ||| 2 ^ i) else 0) n
def cnt (bh:List Int) (n g:Nat):Int:=cntF bh n (Xq n g) g
theorem KG {t u:Nat→Int}:∀ k,(∀ i,i<k→t i=u i)→XI t k=XI u k
 | 0,_=>rfl
 | k+1,h=>by
  show XI t k+t k=XI u k+u k
  rw[KG k fun i hi=>h i zaK,h k zaK]
def term (bh:List Int) (n g i:Nat):Int:=if W8 g i&&readyI bh g i then cnt bh n (g ||| 2 ^ i) else 0
theorem Zd2 (bh:List Int) (n:Nat):cnt bh n (2 ^ n-1)=1:=by
 have hp:0<2 ^ n:=Nat.pow_pos zaJ;have:=(VO n (2 ^ n-1) zaK).2 rfl;unfold cnt;rw[this];rfl
theorem Zfb (bh:List Int) (n g:Nat) (hn:n≤13) (hg:g<2 ^ n) (h:g≠2 ^ n-1):cnt bh n g=XI (term bh n g) n:=by
 have hu:Xq n g≠0:=fun e=>h ((VO n g hg).1 e)
 obtain⟨f,hf⟩:∃ f,Xq n g=f+1:=⟨Xq n g-1,zaK⟩
 unfold cnt;rw[hf];have ha:g<2 ^ 62:=Nat.lt_of_lt_of_le hg (Nat.pow_le_pow_right zaJ zaK);refine KG n fun i hi=>?_
 unfold term;rw[QA g i ha];by_cases hb:g.testBit i=true
 ·simp[hb]
 ·have hb:g.testBit i=false:=by simpa using hb
  have hc:=Zam n g i hi hb;rw[hb];simp only[Bool.not_false,Bool.true_and];unfold cnt;rw[show Xq n (g ||| 2 ^ i)=f from by omega]
theorem VU {t : Nat→Int} {B : Int}:∀ k:Nat,(∀ i,i<k→0≤t i∧t i≤B)→0≤XI t k∧XI t k≤(k:Int)*B
 | 0,_=>by simp[XI]
 | k+1,h=>by
  have h1:=VU k fun i hi=>h i zaK
  have h2:=h k zaK
  show 0≤XI t k+t k∧XI t k+t k≤((k+1:Nat):Int)*B
  have e:((k+1:Nat):Int)*B=(k:Int)*B+B:=by push_cast;rw[Int.add_mul,Int.one_mul]
  omega
theorem KZ (bh:List Int) (n:Nat) (hn:n≤13):∀ (f g:Nat),0≤cntF bh n f g∧cntF bh n f g≤13 ^ f
 | 0,_=>by simp[cntF]
 | f+1,g=>by
  have h:=VU (t:=fun i=>if W8 g i&&readyI bh g i then cntF bh n f (g ||| 2 ^ i) else 0) (B:=13 ^ f) n (fun i _=>by
   have:=KZ bh n hn f (g ||| 2 ^ i)
   split<;>omega)
  refine⟨h.1,Int.le_trans h.2 ?_⟩
  rw[Int.pow_succ,Int.mul_comm]
  exact Int.mul_le_mul_of_nonneg_left zaK (Int.le_of_lt (Int.pow_pos zaJ))
theorem Zdr (n g:Nat):Xq n g≤n:=by
 unfold Xq;have:=List.length_filter_le (fun i=>!g.testBit i) (List.range n);simpa using this
theorem Q8 (bh:List Int) (n g:Nat) (hn:n≤12):0≤cnt bh n g∧cnt bh n g≤23298085122481:=by
 have h:=KZ bh n zaK (Xq n g) g;refine⟨h.1,Int.le_trans h.2 ?_⟩;have h2:(13:Int) ^ Xq n g≤13 ^ 12:=by
  have:(13:Nat) ^ Xq n g≤13 ^ 12:=Nat.pow_le_pow_right zaJ (Nat.le_trans (Zdr n g) hn)
  exact_mod_cast this
 have h3:(13:Int) ^ 12=23298085122481:=zaJ
 omega
theorem ZbC (bh:List Int) (n g i:Nat) (hn:n≤12):0≤term bh n g i∧term bh n g i≤23298085122481:=by
 unfold term;split
 ·exact Q8 bh n _ hn
 ·omega
end Go.Proofs.YtimpddecdodddaaGreat
