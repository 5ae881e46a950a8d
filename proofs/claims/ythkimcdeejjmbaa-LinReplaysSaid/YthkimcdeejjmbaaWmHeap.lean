/- A heap and the blocks that came to it, one by one. -/
import Derived.Test.YthkimcdeejjmbaaWmEv
set_option linter.all false
namespace Wm
theorem T.put'_leaf {α:Type} (o:Option α) (f n:Nat):T.put' o (f+1) .leaf n=T.put' o (f+1) (.node .leaf none .leaf) n:=by
 unfold T.put'
 rfl
theorem T.put'_put' {α:Type} (o o':Option α):∀(f g:Nat) (t:T α) (n:Nat),n<f->n<g->T.put' o f (T.put' o' g t n) n=T.put' o f t n:=by
 intro f
 induction f with
 | zero=>intro g t n h; omega
 | succ f ih =>
  intro g t n h hg
  cases g with
  | zero=>omega
  | succ g =>
   have key:∀(l:T α) (v:Option α) (r:T α),T.put' o (f+1) (T.put' o' (g+1) (.node l v r) n) n=T.put' o (f+1) (.node l v r) n:=by
    intro l v r
    simp only[T.put']
    cases hn:Nat.beq n 0 with
    | true=>rfl
    | false =>
     have hn0:n≠0:=Nat.ne_of_beq_eq_false hn
     cases h2:Nat.beq (n % 2) 1 with
     | true=>simp only[ih g l (n / 2) (by omega) (by omega)]
     | false =>
      have hev:n % 2≠1:=Nat.ne_of_beq_eq_false h2
      simp only[ih g r (n / 2-1) (by omega) (by omega)]
   cases t with
   | node l v r=>exact key l v r
   | leaf=>rw[T.put'_leaf o' g,T.put'_leaf o f]; exact key _ _ _
def H.add (h:H) (x:Option Blk):H:={ t:=h.t.put h.next x,next:=h.next+1 }
def H.ext (h:H):List (Option Blk)->H
 | []=>h
 | x :: l=>(h.add x).ext l
def ldB:Option Blk->Nat->Option V
 | some (.cells cs _),o=>match cs[o]? with
  | some v=>match V.one v with
   | true=>some v
   | false=>none
  | none=>none
 | _,_=>none
def ldcB:Option Blk->Nat->Nat->Option (List V)
 | some (.cells cs _),o,n=>match decide (o+n<=cs.length) with
  | true=>some ((cs.drop o).take n)
  | false=>none
 | _,_,_=>none
def ldNB:Option Blk->Nat->Nat->Option V
 | some (.cells cs _),o,n=>match decide (o+n<=cs.length) with
  | true=>some (.agg ((cs.drop o).take n))
  | false=>none
 | _,_,_=>none
def stB:Option Blk->Nat->List V->Option Blk
 | some (.cells cs k),o,vs=>match decide (k=.ro) || !(vs.all V.one) || !(decide (o+vs.length<=cs.length)) with
  | true=>none
  | false=>some (.cells (z07 cs o vs) k)
 | _,_,_=>none
section
variable {h:H}{l:List (Option Blk)}{i o n b:Nat}
theorem H.ld1_eq:h.ld1 (.ptr b o)=ldB (h.get b) o:=by
 simp only[H.ld1]
 cases h.get b with
 | none=>rfl
 | some x=>cases x <;> rfl
theorem H.ldN_eq (hn:n≠0):h.ldN n (.ptr b o)=ldNB (h.get b) o n:=by
 have:Nat.beq n 0=false:=by cases n with
  | zero=>exact absurd rfl hn
  | succ n=>rfl
 simp only[H.ldN,H.ldc,this]
 cases h.get b with
 | none=>rfl
 | some x=>cases x with
  | cells cs k =>
   simp only[ldNB]
   cases decide (o+n<=cs.length) <;> rfl
  | map es=>rfl
theorem H.stc_eq {vs:List V}:h.stc b o vs=(stB (h.get b) o vs).map fun x=>h.put b (some x):=by
 simp only[H.stc]
 cases h.get b with
 | none=>rfl
 | some x=>cases x with
  | cells cs k =>
   simp only[stB]
   cases (decide (k=.ro) || !(vs.all V.one) || !(decide (o+vs.length<=cs.length))) <;> rfl
  | map es=>rfl
end
section
variable {h:H}{l:List (Option Blk)}{i o n:Nat}
end
theorem z08 {cs:List V}{k:Bk}{o:Nat}:ldB (some (.cells cs k)) o=match cs[o]? with
  | some v=>match V.one v with
   | true=>some v
   | false=>none
  | none=>none:=rfl
theorem z4c {cs:List V}{k:Bk}{o n:Nat}:ldNB (some (.cells cs k)) o n=match decide (o+n<=cs.length) with
  | true=>some (.agg ((cs.drop o).take n))
  | false=>none:=rfl
theorem z6q {cs vs:List V}{k:Bk}{o:Nat}:stB (some (.cells cs k)) o vs=match decide (k=.ro) || !(vs.all V.one) || !(decide (o+vs.length<=cs.length)) with
  | true=>none
  | false=>some (.cells (z07 cs o vs) k):=rfl
theorem ze6 (v u:V):ckB (some v) u=V.beq v u:=rfl
theorem wr64 {n:Int} (h0 : -9223372036854775808<=n) (h1:n<=9223372036854775807):wr .i64 n=n:=by simp only[wr]; omega
theorem z095 {n:Int} (h0:0<=n) (h1:n<=18446744073709551615):wr .u64 n=n:=by simp only[wr]; omega
theorem zm (k:Go.IntKind) (n:Int):asI k (.int k n)=some n:=by simp[asI]
theorem z0x (b:Bool):asB (.bool b)=some b:=rfl
theorem z1v (b o n:Nat):za (.ptr b o) n=some (.ptr b (o+n)):=rfl
end Wm
