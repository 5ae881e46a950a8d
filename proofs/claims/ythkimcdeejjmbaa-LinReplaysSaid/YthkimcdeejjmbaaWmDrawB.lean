/- A region that draws its order: the z0cv of mine, and what has come of it when some of it is done. -/
import Derived.Test.YthkimcdeejjmbaaWmDrawA
set_option linter.all false
namespace Wm
open Go (Value Addr World Obj Program IntKind TypeId Oper Operand Act Exit Sem TypeDesc)
mutual
theorem V.beq_eq:∀(a b:V),V.beq a b=true->a=b
 | .bool a,b,h=>by cases b <;> simp[V.beq] at h; subst h; rfl
 | .int j a,b,h=>by cases b <;> simp[V.beq] at h; obtain⟨rfl,rfl⟩:=h; rfl
 | .str s,b,h=>by cases b <;> simp[V.beq] at h; subst h; rfl
 | .ptr x y,b,h=>by cases b <;> simp[V.beq] at h; obtain⟨h1,h2⟩:=h; subst h1; subst h2; rfl
 | .nilp,b,h=>by cases b <;> simp[V.beq] at h; rfl
 | .sl x y z c,b,h=>by cases b <;> simp[V.beq] at h; obtain⟨⟨⟨h1,h2⟩,h3⟩,h4⟩:=h; subst h1; subst h2; subst h3; subst h4; rfl
 | .nilsl,b,h=>by cases b <;> simp[V.beq] at h; rfl
 | .map r,b,h=>by cases b <;> simp[V.beq] at h; subst h; rfl
 | .nilmap,b,h=>by cases b <;> simp[V.beq] at h; rfl
 | .fn f c,b,h=>by
  cases b <;> simp only[V.beq,Bool.and_eq_true,Bool.false_eq_true] at h
  obtain⟨h1,h2⟩:=h; rw[Nat.eq_of_beq_eq_true h1,V.beqs_eq _ _ h2]
 | .nilfn,b,h=>by cases b <;> simp[V.beq] at h; rfl
 | .ifc t v,b,h=>by
  cases b <;> simp only[V.beq,Bool.and_eq_true,Bool.false_eq_true] at h
  obtain⟨h1,h2⟩:=h; rw[Nat.eq_of_beq_eq_true h1,V.beq_eq _ _ h2]
 | .nilifc,b,h=>by cases b <;> simp[V.beq] at h; rfl
 | .agg cs,b,h=>by
  cases b <;> simp only[V.beq,Bool.false_eq_true] at h
  rw[V.beqs_eq _ _ h]
 | .tup cs,b,h=>by
  cases b <;> simp only[V.beq,Bool.false_eq_true] at h
  rw[V.beqs_eq _ _ h]
 | .dead,b,h=>by cases b <;> simp[V.beq] at h
theorem V.beqs_eq:∀(a b:List V),V.beqs a b=true->a=b
 | [],b,h=>by cases b <;> simp[V.beqs] at h; rfl
 | x :: xs,b,h=>by
  cases b <;> simp only[V.beqs,Bool.and_eq_true,Bool.false_eq_true] at h
  obtain⟨h1,h2⟩:=h; rw[V.beq_eq _ _ h1,V.beqs_eq _ _ h2]
end
structure SigOk (ops:List Oper) (bs:List Nat) (as:List AOp) (s:List Nat):Prop where
 lt:∀(p i:Nat),s[p]?=some i->i<ops.length
 two:∀p i q j:Nat,s[p]?=some i->s[q]?=some j->p<q->i≠j/\zgt bs j i=false/\(zgt bs i j=true\/z07l ops as i j=true)
theorem z06v {ops:List Oper}{bs:List Nat}{as:List AOp}:∀ {s:List Nat},z07i ops bs as s=true->SigOk ops bs as s
 | [],_=>⟨fun p i h=>by simp at h,fun p i q j h=>by simp at h⟩
 | x :: s,h=>by
  simp only[z07i,Bool.and_eq_true,decide_eq_true_eq,List.all_eq_true] at h
  obtain⟨⟨h1,h2⟩,h3⟩:=h
  have ih:=z06v h3
  refine⟨?_,?_⟩
  ·intro p i hp
   cases p with
   | zero=>simp at hp; subst hp; exact h1
   | succ p=>exact ih.lt p i (by simpa using hp)
  ·intro p i q j hp hq hpq
   cases q with
   | zero=>omega
   | succ q =>
    have hq':s[q]?=some j:=by simpa using hq
    cases p with
    | zero =>
     simp at hp; subst hp
     have:=h2 j (List.mem_of_getElem? hq')
     simp only[Bool.not_eq_true',Bool.or_eq_true] at this
     obtain⟨⟨a1,a2⟩,a3⟩:=this
     exact⟨Nat.ne_of_beq_eq_false a1,a2,a3⟩
    | succ p=>exact ih.two p i q j (by simpa using hp) hq' (by omega)
theorem z06a {ops:List Oper}:∀ {s done:List Nat},z07b ops done s=true->∀(p i:Nat) o,s[p]?=some i->ops[i]?=some o->∀e∈o.after,Go.Region.binds .any e=true->e.on∈done\/∃q,q<p/\s[q]?=some e.on
 | [],_,_,p,i,o,hp,_=>by simp at hp
 | x :: s,done,h,p,i,o,hp,ho=>by
  simp only[z07b,Bool.and_eq_true] at h
  obtain⟨h1,h2⟩:=h
  intro e he hb
  cases p with
  | zero =>
   simp at hp; subst hp
   rw[ho] at h1
   simp only[List.all_eq_true,Bool.or_eq_true,Bool.not_eq_true',List.contains_iff_mem] at h1
   rcases h1 e (by simpa using he) with q | q
   ·rw[hb] at q; cases q
   ·exact .inl q
  | succ p =>
   rcases z06a h2 p i o (by simpa using hp) ho e he hb with q | ⟨q,hq,hs⟩
   ·rcases List.mem_cons.mp q with q | q
    ·exact .inr ⟨0,by omega,by simp[q]⟩
    ·exact .inl q
   ·exact .inr ⟨q+1,by omega,by simpa using hs⟩
structure StepAt (ops:List Oper) (bs:List Nat) (as:List AOp) (M:Env) (done:List Nat) (i:Nat) (e e':List V) (h h':H) (v:V) (on:Bool) (dst:Option Nat) (g:Option (Nat × Bool)):Prop where
 op:∃o,ops[i]?=some o/\gOf ops o=some g/\o.dst=dst
 want:zd4 e g=some on
 env:e'=put e dst v
 yes:on=true->sd M (as.getD i z51) e h=some (v,h')/\((as.getD i z51).cls=.eff->∃c,zwg ops bs as i [] done=some c/\c.all (fun c=>c.ok e h')=true)
 no:on=false->v=.undef/\h'=h
theorem z0cv {ops:List Oper}{bs:List Nat}{as:List AOp}{M:Env}:∀ {s done:List Nat}{ls:List (Option (Nat × Bool) × AI)}{env env':List V}{h h':H},
  zpg ops bs as true done s=some ls->(∀i∈s,i<ops.length)->zkd M ls env h=some (env',h') ->
  ∃(E:Nat->List V) (Hh:Nat->H) (out:Nat->V) (on:Nat->Bool) (dst:Nat->Option Nat) (g:Nat->Option (Nat × Bool)),E 0=env/\Hh 0=h/\E s.length=env'/\Hh s.length=h' /\
   ∀p i,s[p]?=some i->StepAt ops bs as M ((s.take p).reverse ++ done) i (E p) (E (p+1)) (Hh p) (Hh (p+1)) (out p) (on p) (dst p) (g p):=by
 intro s
 induction s with
 | nil =>
  intro done ls env env' h h' hl _ hs
  simp[zpg] at hl; subst hl
  simp only[zkd,Option.some.injEq,Prod.mk.injEq] at hs
  exact⟨fun _=>env,fun _=>h,fun _=>.undef,fun _=>false,fun _=>none,fun _=>none,rfl,rfl,hs.1,hs.2,fun p i hp=>by simp at hp⟩
 | cons x s ih =>
  intro done ls env env' h h' hl hlt hs
  have hx:x<ops.length:=hlt x (by simp)
  have hox:ops[x]?=some ops[x]:=by simp[hx]
  simp only[zpg] at hl
  split at hl
  ·rename_i A r hA hr
   have hcons:∃g,gOf ops ops[x]=some g/\ls=(g,A) :: r:=by
    rw[hox] at hl
    simp only[Option.bind_some] at hl
    unfold gOf
    split at hl
    ·rename_i hg; cases hl; rw[hg]; exact⟨none,rfl,rfl⟩
    ·rename_i j wv hg
     split at hl
     ·rename_i t ht; cases hl; rw[hg]; exact⟨some (t,wv),by simp only[ht],rfl⟩
     ·cases hl
   obtain⟨g,hg,rfl⟩:=hcons
   have hAA:A.dst=ops[x].dst/\A.op=as.getD x z51/\((as.getD x z51).cls=.eff->zwg ops bs as x [] done=some A.chk):=by
    unfold aiOf at hA
    split at hA
    ·split at hA
     ·rename_i c hc; cases hA; exact⟨by simp only[hox,Option.bind_some],rfl,fun _=>hc⟩
     ·cases hA
    ·rename_i hn
     cases hA
     exact⟨by simp only[hox,Option.bind_some],rfl,fun hq=>absurd hq (by intro hq; exact hn rfl hq)⟩
   simp only[zkd,Option.bind_eq_some_iff] at hs
   obtain⟨⟨env1,h1⟩,hx1,hs⟩:=hs
   obtain⟨E,Hh,out,on,dst,gg,e0,h0,e1,h1',hst⟩:=ih hr (fun i hi=>hlt i (by simp[hi])) hs
   -- what the first comes to
   have first:∃v b,StepAt ops bs as M done x env env1 h h1 v b ops[x].dst g:=by
    unfold ex1 at hx1
    split at hx1
    ·rename_i hw
     simp only[Option.bind_eq_some_iff] at hx1
     obtain⟨⟨v,h2⟩,hsd,hx1⟩:=hx1
     split at hx1
     ·rename_i hc
      cases hx1
      exact⟨v,true,⟨⟨ops[x],hox,hg,rfl⟩,hw,by rw[hAA.1],fun _=>⟨by rw[<-hAA.2.1]; exact hsd,fun hq=>⟨A.chk,hAA.2.2 hq,hc⟩⟩,fun hq=>by cases hq⟩⟩
     ·cases hx1
    ·rename_i hw
     cases hx1
     exact⟨.undef,false,⟨⟨ops[x],hox,hg,rfl⟩,hw,by rw[hAA.1],(fun hq=>by cases hq),fun _=>⟨rfl,rfl⟩⟩⟩
    ·cases hx1
   obtain⟨v,b,hf⟩:=first
   refine⟨fun p=>match p with | 0=>env | p+1=>E p,fun p=>match p with | 0=>h | p+1=>Hh p,fun p=>match p with | 0=>v | p+1=>out p,fun p=>match p with | 0=>b | p+1=>on p,
    fun p=>match p with | 0=>ops[x].dst | p+1=>dst p,fun p=>match p with | 0=>g | p+1=>gg p,rfl,rfl,e1,h1',?_⟩
   intro p i hp
   cases p with
   | zero =>
    simp at hp; subst hp
    simp only[List.take_zero,List.reverse_nil,List.nil_append,e0,h0]
    exact hf
   | succ p =>
    have:=hst p i (by simpa using hp)
    simpa [List.take_succ_cons,List.reverse_cons,List.append_assoc] using this
  ·cases hl
theorem z0h8 {ops:List Oper}{bs:List Nat}{as:List AOp}{j:Nat}:∀ {done later:List Nat}{c:List Chk},zwg ops bs as j later done=some c->∀(k i:Nat),done[k]?=some i ->
  ∃later' ci,z08q ops bs as j later' i=some ci/\(∀x∈ci,x∈c)/\∀(m i' t:Nat),m<k->done[m]?=some i'->(ops[i']?).bind (·.dst)=some t->t∈later'
 | [],_,_,_,k,i,hk=>by simp at hk
 | x :: done,later,c,hc,k,i,hk=>by
  simp only[zwg] at hc
  split at hc
  ·rename_i c1 r h1 h2
   cases hc
   cases k with
   | zero =>
    simp at hk; subst hk
    exact⟨later,c1,h1,fun y hy=>by simp[hy],fun m i' t hm=>by omega⟩
   | succ k =>
    -- the later ones are kept
    have sub:∀ {done later:List Nat}{c:List Chk},zwg ops bs as j later done=some c->∀(k i:Nat),done[k]?=some i ->
      ∃later' ci,z08q ops bs as j later' i=some ci/\(∀x∈ci,x∈c)/\(∀t∈later,t∈later')/\∀(m i' t:Nat),m<k->done[m]?=some i'->(ops[i']?).bind (·.dst)=some t->t∈later':=by
     intro done
     induction done with
     | nil=>intro later c _ k i hk; simp at hk
     | cons x done ih =>
      intro later c hc k i hk
      simp only[zwg] at hc
      split at hc
      ·rename_i c1 r h1 h2
       cases hc
       cases k with
       | zero =>
        simp at hk; subst hk
        exact⟨later,c1,h1,fun y hy=>by simp[hy],fun t ht=>ht,fun m i' t hm=>by omega⟩
       | succ k =>
        obtain⟨l',ci,a1,a2,a3,a4⟩:=ih h2 k i (by simpa using hk)
        refine⟨l',ci,a1,fun y hy=>by simp[a2 y hy],fun t ht=>a3 t (by simp[ht]),fun m i' t hm hm' ht => ?_⟩
        cases m with
        | zero=>simp at hm'; subst hm'; exact a3 t (by simp[ht])
        | succ m=>exact a4 m i' t (by omega) (by simpa using hm') ht
      ·cases hc
    obtain⟨l',ci,a1,a2,a3,a4⟩:=sub h2 k i (by simpa using hk)
    refine⟨l',ci,a1,fun y hy=>by simp[a2 y hy],fun m i' t hm hm' ht => ?_⟩
    cases m with
    | zero=>simp at hm'; subst hm'; exact a3 t (by simp[ht])
    | succ m=>exact a4 m i' t (by omega) (by simpa using hm') ht
  ·cases hc
def ebar (env:List V) (dst:Nat->Option Nat) (out:Nat->V) (L:Nat->Bool):Nat->List V
 | 0=>env
 | k+1=>match L k with
  | true=>put (ebar env dst out L k) (dst k) (out k)
  | false=>ebar env dst out L k
@[simp] theorem z08m (e:List V) (d:Option Nat) (v:V):(put e d v).length=e.length:=by cases d <;> simp[put]
theorem z0lh {e:List V}{d1 d2:Option Nat}{v1 v2:V} (h:∀t,d1=some t->d2≠some t):put (put e d1 v1) d2 v2=put (put e d2 v2) d1 v1:=by
 cases d1 with
 | none=>rfl
 | some a=>cases d2 with
  | none=>rfl
  | some b=>exact List.set_comm _ _ (fun e=>h a rfl (by rw[e]))
theorem zvx {e:List V}{d:Option Nat}{v:V}{t:Nat} (h:d≠some t):(put e d v).getD t .undef=e.getD t .undef:=by
 cases d with
 | none=>rfl
 | some d=>have:d≠t:=fun q=>h (by rw[q]); simp[put,List.getD,this]
theorem z0fc {e1 e2:List V}{t:Nat}{v:V} (h:e1.length=e2.length):(put e1 (some t) v).getD t .undef=(put e2 (some t) v).getD t .undef:=by
 simp only[put,List.getD_eq_getElem?_getD,List.getElem?_set,h]
 simp
section
variable {env:List V}{dst:Nat->Option Nat}{out:Nat->V}{L:Nat->Bool}
@[simp] theorem z01r:∀k,(ebar env dst out L k).length=env.length
 | 0=>rfl
 | k+1=>by
  simp only[ebar]
  split
  ·rw[z08m,z01r k]
  ·exact z01r k
theorem z0ew {E:Nat->List V} (h0:E 0=env):∀ {k:Nat},(∀p,p<k->E (p+1)=put (E p) (dst p) (out p))->(∀p,p<k->L p=true)->ebar env dst out L k=E k
 | 0,_,_=>h0.symm
 | k+1,hE,hL=>by
  simp only[ebar,hL k (by omega)]
  rw[z0ew h0 (fun p hp=>hE p (by omega)) (fun p hp=>hL p (by omega)),hE k (by omega)]
theorem z032 {E:Nat->List V} (h0:E 0=env):∀ {k:Nat},(∀p,p<k->E (p+1)=put (E p) (dst p) (out p))->(E k).length=env.length
 | 0,_=>by rw[h0]
 | k+1,hE=>by rw[hE k (by omega),z08m,z032 h0 fun p hp=>hE p (by omega)]
theorem z0in {E:Nat->List V} (h0:E 0=env) {n p t:Nat} (hE:∀p,p<n->E (p+1)=put (E p) (dst p) (out p)) (hp:p<=n)
    (h1:∀k,k<p->dst k=some t->L k=true) (h2:∀k,p<=k->k<n->L k=true->dst k≠some t):(ebar env dst out L n).getD t .undef=(E p).getD t .undef:=by
  have a:∀k,k<=p->(ebar env dst out L k).getD t .undef=(E k).getD t .undef:=by
    intro k
    induction k with
    | zero=>intro _; rw[h0]; rfl
    | succ k ih =>
      intro hk
      rw[hE k (by omega)]
      by_cases hd:dst k=some t
      · simp only[ebar,h1 k (by omega) hd,hd]
        exact z0fc (by rw[z01r,z032 h0 fun q hq=>hE q (by omega)])
      · rw[zvx hd,<-ih (by omega)]
        simp only[ebar]
        split
        · exact zvx hd
        · rfl
  have b:∀k,p<=k->k<=n->(ebar env dst out L k).getD t .undef=(E p).getD t .undef:=by
    intro k
    induction k with
    | zero => intro h _; have : p = 0 := by omega
              subst this; exact a 0 (by omega)
    | succ k ih =>
      intro hk hn
      by_cases hq:p=k+1
      · subst hq; exact a _ (Nat.le_refl _)
      · have hi:=ih (by omega) (by omega)
        simp only[ebar]
        split
        · rename_i hl; rw[zvx (h2 k (by omega) (by omega) hl),hi]
        · exact hi
  exact b n hp (Nat.le_refl _)
theorem z0id {L':Nat->Bool}{n p:Nat} (hp:p<n) (hL:L p=false) (hL':∀k,k<n->L' k=(L k || decide (k=p))) (h2:∀k,p<k->k<n->L k=true->∀t,dst p=some t->dst k≠some t) :
  ebar env dst out L' n=put (ebar env dst out L n) (dst p) (out p):=by
 have a:∀k,k<=p->ebar env dst out L' k=ebar env dst out L k:=by
  intro k
  induction k with
  | zero=>intro _; rfl
  | succ k ih =>
   intro hk
   have:L' k=L k:=by rw[hL' k (by omega)]; simp; intro e; omega
   simp only[ebar,this,ih (by omega)]
 have b:∀k,p<k->k<=n->ebar env dst out L' k=put (ebar env dst out L k) (dst p) (out p):=by
  intro k
  induction k with
  | zero=>intro h; omega
  | succ k ih =>
   intro hk hn
   by_cases hq:k=p
   ·subst hq
    have:L' k=true:=by rw[hL' k hp]; simp
    simp only[ebar,this,hL,a k (Nat.le_refl _)]
   ·have hi:=ih (by omega) (by omega)
    have:L' k=L k:=by rw[hL' k (by omega)]; simp[hq]
    simp only[ebar,this,hi]
    cases hlk:L k with
    | false=>rfl
    | true=>exact z0lh fun t ht=>h2 k (by omega) (by omega) hlk t ht
 exact b n hp (Nat.le_refl _)
end
def left (L:Nat->Bool):Nat->Nat
 | 0=>0
 | k+1=>left L k+(match L k with | true=>0 | false=>1)
theorem z0je {L L':Nat->Bool}{n p:Nat} (hp:p<n) (hL:L p=false) (hL':∀k,k<n->L' k=(L k || decide (k=p))):left L' n+1=left L n:=by
 have a:∀k,k<=p->left L' k=left L k:=by
  intro k
  induction k with
  | zero=>intro _; rfl
  | succ k ih =>
   intro hk
   have:L' k=L k:=by rw[hL' k (by omega)]; simp; intro e; omega
   simp only[left,this,ih (by omega)]
 have b:∀k,p<k->k<=n->left L' k+1=left L k:=by
  intro k
  induction k with
  | zero=>intro h; omega
  | succ k ih =>
   intro hk hn
   by_cases hq:k=p
   ·subst hq
    have:L' k=true:=by rw[hL' k hp]; simp
    simp only[left,this,hL,a k (Nat.le_refl _)]
   ·have hi:=ih (by omega) (by omega)
    have:L' k=L k:=by rw[hL' k (by omega)]; simp[hq]
    simp only[left,this]
    omega
 exact b n hp (Nat.le_refl _)
theorem z0bu {L:Nat->Bool}:∀ {n:Nat},left L n=0->∀k,k<n->L k=true
 | 0,_,k,hk=>by omega
 | n+1,h,k,hk=>by
  simp only[left] at h
  cases hn:L n with
  | false=>rw[hn] at h; simp at h
  | true =>
   rcases Nat.lt_or_ge k n with q | q
   ·exact z0bu (by omega) k q
   ·have:k=n:=by omega
    subst this; exact hn
theorem z0g8 {L:Nat->Bool}:∀n,left L n<=n
 | 0=>Nat.le_refl _
 | n+1=>by simp only[left]; have:=z0g8 (L:=L) n; cases L n <;> simp <;> omega
theorem join {tab:Tab}{β β':Nat->Option Loc}{g g':Nat->Option Blk}{h h':H}{w w':World} (hR:Rel tab β g w) (hg:∀b x,h.get b=some x->g b=some x)
  (ht:Tr β β' h h' w w') (hR':Rel tab β' h'.get w') (hg':∀b x,g' b=some x->h'.get b=some x\/(h.get b=none/\g b=some x/\x.wr=true)):Rel tab β' g' w':=by
 have keepB:∀b x l,h.get b=none->g b=some x->x.wr=true->β b=some l->w'.heap[l.blk]?=w.heap[l.blk]?:=by
  intro b x l hb hgb hx hl
  obtain⟨l1,hl1,hB⟩:=hR.blk b x hgb
  rw[hl] at hl1; cases hl1
  refine ht.frame _ hB.lt ?_
  intro b0 x0 l0 h0 hx0 hl0 e
  have hne:b0≠b:=by intro q; subst q; rw[hb] at h0; cases h0
  exact hR.sep b0 x0 b x l0 l (hg _ _ h0) hgb hne hl0 hl hx0 e
 have old:∀b x l',h.get b=none->g b=some x->β' b=some l'->∃l,β b=some l/\l=l':=by
  intro b x l' _ hgb hl'
  obtain⟨l,hl,_⟩:=hR.blk b x hgb
  have:=ht.ext b l hl
  rw[hl'] at this; cases this
  exact⟨l',hl,rfl⟩
 -- a block of the heap of mine,and one beside it
 have mixed:∀b x b' x' l l',h'.get b=some x->h.get b'=none->g b'=some x'->x'.wr=true->β' b=some l->β' b'=some l'->l.blk≠l'.blk:=by
  intro b x b' x' l l' hb hb' hgb' hx' hl hl' e
  obtain⟨l1,hl1,rfl⟩:=old b' x' l' hb' hgb' hl'
  obtain⟨l2,hl2,hB⟩:=hR.blk b' x' hgb'
  rw[hl1] at hl2; cases hl2
  rcases ht.img b x l hb hl with q | ⟨b0,x0,l0,h0,hl0,e0,_⟩
  ·have:=hB.lt; omega
  ·have hne:b'≠b0:=by intro q; subst q; rw[hb'] at h0; cases h0
   exact hR.sep b' x' b0 x0 l1 l0 hgb' (hg _ _ h0) hne hl1 hl0 hx' (by omega)
 refine⟨?_,?_⟩
 ·intro b x hb
  rcases hg' b x hb with q | ⟨q1,q2,q3⟩
  ·exact hR'.blk b x q
  ·obtain⟨l,hl,hB⟩:=hR.blk b x q2
   exact⟨l,ht.ext b l hl,hB.keep ht.ext ht.size (keepB b x l q1 q2 q3 hl)⟩
 ·intro b x b' x' l l' hb hb' hne hl hl' hx e
  rcases hg' b x hb with q | ⟨q1,q2,q3⟩
  ·rcases hg' b' x' hb' with r | ⟨r1,r2,r3⟩
   ·exact hR'.sep b x b' x' l l' q r hne hl hl' hx e
   ·exact mixed b x b' x' l l' q r1 r2 r3 hl hl' e
  ·rcases hg' b' x' hb' with r | ⟨r1,r2,r3⟩
   ·exact mixed b' x' b x l' l r q1 q2 q3 hl' hl e.symm
   ·obtain⟨m,hm,rfl⟩:=old b x l q1 q2 hl
    obtain⟨m',hm',rfl⟩:=old b' x' l' r1 r2 hl'
    exact hR.sep b x b' x' m m' q2 r2 hne hm hm' hx e
structure TrG (β0 β:Nat->Option Loc) (h0:H) (N:Nat) (g:Nat->Option Blk) (w0 w:World):Prop where
 ext:Ext β0 β
 dom:∀b,β b≠none->β0 b≠none\/(h0.next<=b/\b<N)
 os:w.os=w0.os
 tape:w.tape=w0.tape
 output:w.output=w0.output
 size:w0.heap.size<=w.heap.size
 frame:∀B,B<w0.heap.size->(∀b x l,h0.get b=some x->x.wr=true->β0 b=some l->l.blk≠B)->w.heap[B]?=w0.heap[B]?
 img:∀b x l,g b=some x->β b=some l->w0.heap.size<=l.blk\/∃b0 x0 l0,h0.get b0=some x0/\β0 b0=some l0/\l0.blk=l.blk/\(x.wr=true->x0.wr=true)
theorem TrG.step {tab:Tab}{β0 β β':Nat->Option Loc}{h0:H}{N:Nat}{g g':Nat->Option Blk}{h h':H}{w0 w w':World} (a:TrG β0 β h0 N g w0 w) (hR:Rel tab β g w) (hg:∀b x,h.get b=some x->g b=some x)
  (ht:Tr β β' h h' w w') (hl:h0.next<=h.next) (hn:h'.next<=N) (hg':∀b x,g' b=some x->h'.get b=some x\/(h.get b=none/\g b=some x/\x.wr=true)):TrG β0 β' h0 N g' w0 w' where
 ext:=a.ext.trans ht.ext
 dom b hb:=by
  rcases ht.dom b hb with q | ⟨q1,q2⟩
  ·exact a.dom b q
  ·exact .inr ⟨by omega,by omega⟩
 os:=ht.os.trans a.os
 tape:=ht.tape.trans a.tape
 output:=ht.output.trans a.output
 size:=Nat.le_trans a.size ht.size
 frame B hB hno:=by
  rw[ht.frame B (Nat.lt_of_lt_of_le hB a.size) ?_,a.frame B hB hno]
  intro b x l hb hx hl e
  rcases a.img b x l (hg _ _ hb) hl with q | ⟨b0,x0,l0,q0,q1,q2,q3⟩
  ·omega
  ·exact hno b0 x0 l0 q0 (q3 hx) q1 (q2.trans e)
 img b x l hb hl:=by
  rcases hg' b x hb with q | ⟨q1,q2,q3⟩
  ·rcases ht.img b x l q hl with r | ⟨b1,x1,l1,r0,r1,r2,r3⟩
   ·exact .inl (Nat.le_trans a.size r)
   ·rcases a.img b1 x1 l1 (hg _ _ r0) r1 with s | ⟨b0,x0,l0,s0,s1,s2,s3⟩
    ·exact .inl (by omega)
    ·exact .inr ⟨b0,x0,l0,s0,s1,s2.trans r2,fun hx=>s3 (r3 hx)⟩
  ·obtain⟨l1,hl1,_⟩:=hR.blk b x q2
   have:=ht.ext b l1 hl1
   rw[hl] at this; cases this
   exact a.img b x l q2 hl1
end Wm
