/- Rows in other orders: two beside one another that do not depend on each other may change places. -/
import Derived.Test.YtkpbmbhejpmboaaPkB00
namespace Go.Proofs.Ytkpbmbhejpmboaa
open Go.RowKit
set_option linter.unusedVariables false
section
variable {α:Type}
inductive TE (dep:α→α→Bool):List α→List α→Prop
 | refl (l:List α):TE dep l l
 | swap (u v:List α) (x y:α):dep x y=false→dep y x=false→TE dep (u++x::y::v) (u++y::x::v)
 | trans {a b c:List α}:TE dep a b→TE dep b c→TE dep a c
variable {dep:α→α→Bool} {l m l':List α} {x y:α}
theorem TE.cons (z:α) (h:TE dep l m):TE dep (z::l) (z::m):=by
 induction h with
 | refl l=>exact .refl _
 | swap u v x y h1 h2=>exact .swap (z::u) v x y h1 h2
 | trans _ _ i1 i2=>exact .trans i1 i2
theorem TE.len (h:TE dep l m):l.length=m.length:=by
 induction h with
 | refl l=>rfl
 | swap u v x y h1 h2=>simp
 | trans _ _ i1 i2=>exact i1.trans i2
def OTE (dep:α→α→Bool):Option (List α)→Option (List α)→Prop
 | none,none=>True
 | some a,some b=>TE dep a b
 | _,_=>False
theorem OTE.refl (o:Option (List α)):OTE dep o o:=by
 cases o
 ·trivial
 ·exact TE.refl _
theorem OTE.map (z:α) {o p:Option (List α)} (h:OTE dep o p):OTE dep (o.map (z::·)) (p.map (z::·)):=by
 cases o<;>cases p
 ·trivial
 ·exact h
 ·exact h
 ·exact TE.cons z h
theorem OTE.trans {o p q:Option (List α)} (h:OTE dep o p) (k:OTE dep p q):OTE dep o q:=by
 cases o<;>cases p<;>cases q
 all_goals first | trivial | exact h.elim | exact k.elim | exact TE.trans h k
end
section
variable {α:Type} [DecidableEq α]
def takeT (dep:α→α→Bool):List α→α→Option (List α)
 | [],_=>none
 | y::r,x=>if x=y then some r else if dep y x then none else (takeT dep r x).map (y::·)
variable {dep:α→α→Bool} {l m l':List α} {x y:α}
def okT (dep:α→α→Bool):List α→List α→Bool
 | l,[]=>l.isEmpty
 | l,x::m=>match takeT dep l x with
  | none=>false
  | some l'=>okT dep l' m
theorem takeT_te (hs:∀ a b,dep a b=dep b a):∀ {l l':List α},takeT dep l x=some l'→TE dep l (x::l')
 | [],_,h=>by cases h
 | y::r,l',h=>by
  unfold takeT at h
  split at h
  ·rename_i e
   rw[e,←Option.some.inj h]
   exact .refl _
  ·split at h
   ·cases h
   ·rename_i h1 h2
    obtain⟨r',hr,rfl⟩:=Option.map_eq_some_iff.1 h
    have h3:dep y x=false:=by simpa using h2
    exact ((takeT_te hs hr).cons y).trans (.swap [] r' y x h3 ((hs x y).trans h3))
theorem okT_te (hs:∀ a b,dep a b=dep b a):∀ {m l:List α},okT dep l m=true→TE dep l m
 | [],l,h=>by
  unfold okT at h
  rw[List.isEmpty_iff.1 h]
  exact .refl _
 | x::m,l,h=>by
  unfold okT at h
  split at h
  ·cases h
  ·rename_i l' hl
   exact (takeT_te hs hl).trans ((okT_te hs h).cons x)
theorem takeT_swap (a b:α) (v:List α) (h1:dep a b=false) (h2:dep b a=false):∀ u:List α,OTE dep (takeT dep (u++a::b::v) x) (takeT dep (u++b::a::v) x)
 | []=>by
  simp only[List.nil_append,takeT]
  by_cases ha:x=a
  ·subst ha
   by_cases hb:x=b
   ·subst hb
    simp only[if_true]
    exact TE.refl _
   ·simp only[if_true,if_neg hb,h2,Bool.false_eq_true,if_false,Option.map_some]
    exact TE.refl _
  ·by_cases hb:x=b
   ·subst hb
    simp only[if_true,if_neg ha,h1,Bool.false_eq_true,if_false,Option.map_some]
    exact TE.refl _
   ·simp only[if_neg ha,if_neg hb]
    by_cases d1:dep a x=true
    ·simp only[d1,if_true]
     by_cases d2:dep b x=true
     ·simp only[d2,if_true];trivial
     ·simp only[d2,Bool.false_eq_true,if_false,Option.map_none];trivial
    ·by_cases d2:dep b x=true
     ·simp only[d1,d2,Bool.false_eq_true,if_false,if_true,Option.map_none];trivial
     ·simp only[d1,d2,Bool.false_eq_true,if_false]
      cases takeT dep v x with
      | none=>trivial
      | some r=>exact TE.swap [] r a b h1 h2
 | c::u=>by
  simp only[List.cons_append,takeT]
  split
  ·exact TE.swap u v a b h1 h2
  ·split
   ·trivial
   ·exact (takeT_swap a b v h1 h2 u).map c
theorem takeT_te2 (h:TE dep l m):OTE dep (takeT dep l x) (takeT dep m x):=by
 induction h with
 | refl l=>exact .refl _
 | swap u v a b h1 h2=>exact takeT_swap a b v h1 h2 u
 | trans _ _ i1 i2=>exact i1.trans i2
theorem okT_te2:∀ {m l l':List α},TE dep l l'→okT dep l m=okT dep l' m
 | [],l,l',h=>by
  have:=h.len
  unfold okT
  cases l<;>cases l'<;>simp_all
 | x::m,l,l',h=>by
  have h1:=takeT_te2 (x:=x) h
  unfold okT
  cases e1:takeT dep l x<;>cases e2:takeT dep l' x<;>rw[e1,e2]at h1<;>first | rfl | exact h1.elim | exact okT_te2 h1
theorem okT_refl:∀ l:List α,okT dep l l=true
 | []=>rfl
 | x::l=>by
  unfold okT takeT
  rw[if_pos rfl]
  exact okT_refl l
theorem okT_iff (hs:∀ a b,dep a b=dep b a):okT dep l m=true↔TE dep l m:=
 ⟨okT_te hs,fun h=>by rw[okT_te2 h];exact okT_refl m⟩
theorem TE.two (hs:∀ a b,dep a b=dep b a) (hd:dep x y=true) (h:TE dep l m):l.filter (fun z=>decide (z=x)||decide (z=y))=m.filter (fun z=>decide (z=x)||decide (z=y)):=by
 induction h with
 | refl l=>rfl
 | swap u v a b h1 h2 =>
  simp only[List.filter_append,List.append_cancel_left_eq]
  by_cases e:a=b
  ·subst e;rfl
  ·simp only[List.filter_cons]
   by_cases pa:(decide (a=x)||decide (a=y))=true
   ·by_cases pb:(decide (b=x)||decide (b=y))=true
    ·exfalso
     simp only[Bool.or_eq_true,decide_eq_true_eq]at pa pb
     rcases pa with rfl|rfl<;>rcases pb with rfl|rfl
     ·exact e rfl
     ·rw[hd]at h1;cases h1
     ·rw[hd]at h2;cases h2
     ·exact e rfl
    ·simp only[pa,pb,if_true,Bool.false_eq_true,if_false]
   ·simp only[pa,Bool.false_eq_true,if_false]
 | trans _ _ i1 i2=>exact i1.trans i2
theorem TE.beside (hs:∀ a b,dep a b=dep b a) {u v:List α} (hd:dep x y=true) (h:TE dep (u++x::y::v) (u++y::x::v)):x=y:=by
 have h1:=h.two hs hd
 simp only[List.filter_append,List.append_cancel_left_eq,List.filter_cons,decide_true,Bool.true_or,Bool.or_true,if_true]at h1
 exact (List.cons.inj h1).1
end
end Go.Proofs.Ytkpbmbhejpmboaa
