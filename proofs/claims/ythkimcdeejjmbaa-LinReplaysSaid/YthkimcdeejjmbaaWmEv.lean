/- How what calls come to is shown. -/
import Derived.Test.YthkimcdeejjmbaaWmShal
set_option linter.all false
namespace Wm
def Ev {α:Type} (o:Option α) (Q:α->Prop):Prop:=∃r,o=some r/\Q r
section
variable {α β:Type}{o:Option α}{Q Q':α->Prop}
theorem Ev.some {r:α} (h:Q r):Ev (some r) Q:=⟨r,rfl,h⟩
theorem Ev.mono (h:Ev o Q') (k:∀r,Q' r->Q r):Ev o Q:=let ⟨r,e,q⟩:=h; ⟨r,e,k r q⟩
theorem Ev.bind {f:α->Option β}{R:β->Prop} (h:Ev o Q) (k:∀r,Q r->Ev (f r) R):Ev (o.bind f) R:=by
 obtain⟨r,rfl,q⟩:=h
 exact k r q
theorem Ev.iff_some {r:α}:Ev (Option.some r) Q<->Q r:=⟨fun ⟨_,e,q⟩=>by cases e; exact q,Ev.some⟩
end
section
variable {b:List V->H->Option (AX × List V × H)}
theorem z0i9 {e e':List V}{h h':H}{r:AX × List V × H} (h1:b e h=some (.normal,e',h')) (h2:loopW b e' h'=some r):loopW b e h=some r:=by
 obtain⟨n,hn⟩:=ztv h2
 exact zze (n:=n+1) (by simp only[z5x,h1]; exact hn)
theorem z0jg {e e':List V}{h h':H}{x:AX} (h1:b e h=some (x,e',h')) (hx:x≠.normal):loopW b e h=some (x,e',h'):=by
 refine zze (n:=1) ?_
 simp only[z5x,h1]
 cases x <;> first | rfl | exact absurd rfl hx
theorem z0kn {α:Type} (enc:α->List V) (I:α->H->Prop) (μ:α->H->Nat) {Q:AX × List V × H->Prop}
  (step:∀a h,I a h->Ev (b (enc a) h) fun r=>(∃a',r.1=.normal/\r.2.1=enc a'/\I a' r.2.2/\μ a' r.2.2<μ a h)\/(r.1≠.normal/\Q r)) :
  ∀(a:α) (h:H),I a h->Ev (loopW b (enc a) h) Q:=by
 have key:∀(n:Nat) (a:α) (h:H),μ a h=n->I a h->Ev (loopW b (enc a) h) Q:=by
  intro n
  induction n using Nat.strongRecOn with
  | ind n ih =>
   intro a h hn hI
   obtain⟨⟨x,e',h'⟩,hb,hr⟩:=step a h hI
   rcases hr with ⟨a',hx,he,hI',hlt⟩ | ⟨hx,hQ⟩
   ·simp only at hx he hI' hlt
    subst hx; subst he
    obtain⟨r,hl,hq⟩:=ih _ (by omega) a' h' rfl hI'
    exact⟨r,z0i9 hb hl,hq⟩
   ·exact⟨_,z0jg hb hx,hQ⟩
 exact fun a h hI=>key _ a h rfl hI
end
section
variable {prog:Nat->Option AFunc}{meth:Nat->Nat->Option Nat}
theorem z0e {f:Nat}{af:AFunc} (hf:prog f=some af) (hc:af.closed=false) {args:List V}{h:H}{Q:V × H->Prop} (he:Ev (z06 (envW meth (callW prog meth)) af args h) Q):Ev (callW prog meth f args h) Q:=by
 obtain⟨r,e,q⟩:=he
 exact⟨r,z08b hf (by unfold zeq; rw[hc]; exact e),q⟩
theorem za7 {f:Nat}{af:AFunc} (hf:prog f=some af) (hc:af.closed=true) {args:List V} (ha:V.flats args=true) {v:V} (hv:V.flat v=true) (h:H) (he:Ev (z06 (envW meth (callW prog meth)) af args .empty) fun r=>r.1=v):callW prog meth f args h=some (v,h):=by
 obtain⟨r,e,q⟩:=he
 refine z08b hf ?_
 subst q
 unfold zeq
 simp only[hc,ha,e,Option.bind_some,hv]
end
theorem ze (h:H) (x:Blk):(h.new x).get h.next=some x:=by rw[H.get_new,if_pos rfl]
theorem z0z {h:H}{x:Blk}{b:Nat} (hb:b≠h.next):(h.new x).get b=h.get b:=by rw[H.get_new,if_neg hb]
theorem zq (h:H) (b:Nat) (x:Option Blk):(h.put b x).get b=x:=by rw[H.get_put,if_pos rfl]
theorem zf {h:H}{x:Option Blk}{b c:Nat} (hb:c≠b):(h.put b x).get c=h.get c:=by rw[H.get_put,if_neg hb]
def H.ok (h:H):Prop:=∀b,h.next<=b->h.get b=none
theorem H.ok.lt {h:H} (ok:h.ok) {b:Nat}{x:Blk} (hb:h.get b=some x):b<h.next:=by
 rcases Nat.lt_or_ge b h.next with q | q
 ·exact q
 ·rw[ok b q] at hb; cases hb
theorem H.ok.new {h:H} (ok:h.ok) (x:Blk):(h.new x).ok:=fun b hb=>by
 simp only[H.next_new] at hb
 rw[z0z (by omega)]
 exact ok b (by omega)
theorem H.ok.put {h:H} (ok:h.ok) {b:Nat} (hb:b<h.next) (x:Option Blk):(h.put b x).ok:=fun c hc=>by
 simp only[H.next_put] at hc
 rw[zf (by omega)]
 exact ok c hc
theorem H.ok_empty:H.empty.ok:=fun b _=>T.get_leaf b
theorem z26 {h:H}{b o:Nat}{cs:List V}{k:Bk}{v:V} (hb:h.get b=some (.cells cs k)) (hv:cs[o]?=some v) (h1:v.one=true):h.ld1 (.ptr b o)=some v:=by
 simp only[H.ld1,hb,hv,h1]
theorem z07e {h:H}{b o n:Nat}{cs:List V}{k:Bk} (hb:h.get b=some (.cells cs k)) (hv:o+n<=cs.length):h.ldc b o n=some ((cs.drop o).take n):=by
 unfold H.ldc
 split
 ·rename_i hn; rw[Nat.eq_of_beq_eq_true hn]; simp
 ·simp only[hb,hv,decide_true]
theorem zoo {h:H}{b o n:Nat}{cs:List V}{k:Bk} (hb:h.get b=some (.cells cs k)) (hv:o+n<=cs.length):h.ldN n (.ptr b o)=some (.agg ((cs.drop o).take n)):=by
 simp only[H.ldN,z07e hb hv]
theorem z079 {h:H}{b o:Nat}{cs vs:List V}{k:Bk} (hb:h.get b=some (.cells cs k)) (hk:k≠.ro) (hv:vs.all V.one=true) (hl:o+vs.length<=cs.length):h.stc b o vs=some (h.put b (some (.cells (z07 cs o vs) k))):=by
 simp only[H.stc,hb,hk,hv,hl,decide_false,decide_true,Bool.not_true,Bool.or_self]
section
open Go (Program Func)
variable {P:Program}{tab:Tab}{prog:Nat->Option AFunc}
theorem z0br:∀ {l:List (Nat × Nat)}{k f:Nat},zbg l k=some f->(k,f)∈l
 | [],k,f,h=>by simp[zbg] at h
 | (a,b) :: l,k,f,h=>by
  simp only[zbg] at h
  split at h
  ·rename_i hb; rw[Nat.eq_of_beq_eq_true hb] at *; cases h; simp
  ·exact List.mem_cons_of_mem _ (z0br h)
def FnOk (P:Program) (tab:Tab) (prog:Nat->Option AFunc) (p:Nat × Nat):Prop :=
 ∀af,prog p.2=some af->zlk P p.1=true/\∃fn hs,P.funcs[p.1]?=some fn/\comp P tab af.closed hs fn=some af
theorem FnOk.of {k f:Nat}{af:AFunc}{fn:Func}{hs:zcd} (hf:prog f=some af) (hc:zlk P k=true) (hfn:P.funcs[k]?=some fn) (h:comp P tab af.closed hs fn=some af):FnOk P tab prog (k,f):=by
 intro af' h'
 simp only at h'
 rw[hf] at h'; cases h'
 exact⟨hc,fn,hs,hfn,h⟩
theorem ProgOk.of_fn {l:List (Nat × Nat)} (hl:tab.fn=l) (h:∀p∈l,FnOk P tab prog p):ProgOk P tab prog:=by
 subst hl
 intro f af hf k hk
 exact h (k,f) (z0br hk) af hf
end
end Wm
