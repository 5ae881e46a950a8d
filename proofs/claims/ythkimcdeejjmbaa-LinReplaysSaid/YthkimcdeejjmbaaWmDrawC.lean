/- A region that draws its order: whatever the order, what mine comes to. -/
import Derived.Test.YthkimcdeejjmbaaWmDrawB
set_option linter.all false
namespace Wm
open Go (Value Addr World Obj Program IntKind TypeId Oper Operand Act Exit Sem TypeDesc)
structure Ctx (P:Program) (tab:Tab) (M:Env) (ops:Array Oper) where
 s:List Nat
 E:Nat->List V
 Hh:Nat->H
 out:Nat->V
 on:Nat->Bool
 dst:Nat->Option Nat
 gd:Nat->Option (Nat × Bool)
 N:Nat
 sig:SigOk ops.toList (Go.Region.before ops).toList (ops.toList.map (cOpF P tab)) s
 mem:∀i,i<ops.size->∃p:Nat,s[p]?=some i
 edges:∀(p i:Nat) o,s[p]?=some i->ops.toList[i]?=some o->∀e∈o.after,Go.Region.binds .any e=true->∃q:Nat,q<p/\s[q]?=some e.on
 step:∀p i:Nat,s[p]?=some i->StepAt ops.toList (Go.Region.before ops).toList (ops.toList.map (cOpF P tab)) M (s.take p).reverse i (E p) (E (p+1)) (Hh p) (Hh (p+1)) (out p) (on p) (dst p) (gd p)
 hN:zzq M.call
 hD:z0cw M.call
 bound:(Hh s.length).next<=N
 fresh0:∀b,(Hh 0).next<=b->b<N->(Hh 0).get b=none
namespace Ctx
variable {P:Program}{tab:Tab}{M:Env}{ops:Array Oper} (C:Ctx P tab M ops)
def m:Nat:=C.s.length
def A (p:Nat):AOp:=(ops.toList.map (cOpF P tab)).getD (C.s.getD p 0) z51
def cl (p:Nat):Cls:=(C.A p).cls
def L (listed:Array Bool) (p:Nat):Bool:=listed.getD (C.s.getD p 0) false
variable {C}
theorem at_ {p:Nat} (hp:p<C.m):C.s[p]?=some (C.s.getD p 0):=by
 unfold m at hp
 simp[List.getD_eq_getElem?_getD,hp]
theorem z076 {p i:Nat} (h:C.s[p]?=some i):p<C.m:=by
 unfold m
 exact(List.getElem?_eq_some_iff.mp h).1
theorem zmm {p i:Nat} (h:C.s[p]?=some i):C.s.getD p 0=i:=by simp[List.getD_eq_getElem?_getD,h]
theorem inj {p q i:Nat} (hp:C.s[p]?=some i) (hq:C.s[q]?=some i):p=q:=by
 rcases Nat.lt_trichotomy p q with h | h | h
 ·exact absurd rfl (C.sig.two p i q i hp hq h).1
 ·exact h
 ·exact absurd rfl (C.sig.two q i p i hq hp h).1
theorem st (C:Ctx P tab M ops) {p:Nat} (hp:p<C.m):StepAt ops.toList (Go.Region.before ops).toList (ops.toList.map (cOpF P tab)) M (C.s.take p).reverse (C.s.getD p 0) (C.E p) (C.E (p+1)) (C.Hh p) (C.Hh (p+1)) (C.out p) (C.on p) (C.dst p) (C.gd p) :=
 C.step p _ (at_ hp)
theorem sdp {p:Nat} (hp:p<C.m) (ho:C.on p=true):sd M (C.A p) (C.E p) (C.Hh p)=some (C.out p,C.Hh (p+1)):=((C.st hp).yes ho).1
theorem off {p:Nat} (hp:p<C.m) (ho:C.on p=false):C.out p=.undef/\C.Hh (p+1)=C.Hh p:=(C.st hp).no ho
theorem z0hl {p:Nat} (hp:p<C.m):(C.Hh p).next<=(C.Hh (p+1)).next:=by
 cases ho:C.on p with
 | true=>exact z0av C.hN (sdp hp ho)
 | false=>rw[(off hp ho).2]; exact Nat.le_refl _
theorem zd8 {p q:Nat} (hpq:p<=q) (hq:q<=C.m):(C.Hh p).next<=(C.Hh q).next:=by
  induction q with
  | zero => have : p = 0 := by omega
            subst this; exact Nat.le_refl _
  | succ q ih =>
    by_cases h:p=q+1
    · subst h; exact Nat.le_refl _
    · exact Nat.le_trans (ih (by omega) (by omega)) (z0hl (by omega))
theorem zwl {p:Nat} (hp:p<=C.m):(C.Hh p).next<=C.N:=Nat.le_trans (zd8 hp (Nat.le_refl _)) C.bound
theorem z07a {k b:Nat} (hk:k<=C.m) (h1:(C.Hh k).next<=b) (h2:b<C.N):(C.Hh k).get b=none:=by
 induction k with
 | zero=>exact C.fresh0 b h1 h2
 | succ k ih =>
  have h3:=ih (by omega) (Nat.le_trans (z0hl (by omega)) h1)
  cases ho:C.on k with
  | true=>exact z0jo C.hD (sdp (by omega) ho) h1 h3
  | false=>rw[(off (by omega) ho).2]; exact h3
theorem z03g {p:Nat} (hp:p<C.m) (ho:C.on p=true) (hc:C.cl p=.alloc):∃blk,blk.wr=true/\C.Hh (p+1)=(C.Hh p).new blk/\∀h2,h2.next=(C.Hh p).next->sd M (C.A p) (C.E p) h2=some (C.out p,h2.new blk) :=
 z0e5 hc (sdp hp ho)
theorem zth {p:Nat} (hp:p<C.m) (ho:C.on p=true) (hc:C.cl p=.alloc):(C.Hh (p+1)).next=(C.Hh p).next+1:=by
 obtain⟨blk,_,h,_⟩:=z03g hp ho hc
 rw[h]; rfl
theorem z0me {p:Nat} (hp:p<C.m) (hc:C.on p=true->C.cl p≠.eff/\C.cl p≠.alloc):C.Hh (p+1)=C.Hh p:=by
 cases ho:C.on p with
 | false=>exact(off hp ho).2
 | true =>
  have h:=hc ho
  have hs:=sdp hp ho
  cases hcl:C.cl p with
  | pure=>exact(z0ad hcl hs).1
  | read=>exact(z0a5 hcl hs).1
  | alloc=>exact absurd hcl h.2
  | eff=>exact absurd hcl h.1
theorem z02n {q k:Nat} (hq:q<=k) (hk:k<=C.m) (hne:∀p,q<=p->p<k->C.on p=true->C.cl p≠.eff) :
    (∀b x,(C.Hh q).get b=some x->(C.Hh k).get b=some x) /\
    (∀b x,(C.Hh k).get b=some x->(C.Hh q).get b=some x\/∃p,q<=p/\p<k/\C.on p=true/\C.cl p=.alloc/\b=(C.Hh p).next/\(C.Hh (p+1)).get (C.Hh p).next=some x):=by
  induction k with
  | zero => have : q = 0 := by omega
            subst this; exact⟨fun _ _ h=>h,fun _ _ h=>.inl h⟩
  | succ k ih =>
    by_cases hqk:q=k+1
    · subst hqk; exact⟨fun _ _ h=>h,fun _ _ h=>.inl h⟩
    · obtain⟨i1,i2⟩:=ih (by omega) (by omega) fun p a b=>hne p a (by omega)
      by_cases ha:C.on k=true/\C.cl k=.alloc
      · obtain⟨ho,hc⟩:=ha
        obtain⟨blk,hw,hn,_⟩:=z03g (C:=C) (p:=k) (by omega) ho hc
        have hnone:(C.Hh k).get (C.Hh k).next=none:=z07a (by omega) (Nat.le_refl _) (by
          have:=zth (C:=C) (p:=k) (by omega) ho hc
          have:=zwl (C:=C) (p:=k+1) (by omega)
          omega)
        refine⟨fun b x h => ?_,fun b x h => ?_⟩
        · have h1:=i1 b x h
          rw[hn,H.get_new,if_neg (by intro e; subst e; rw[hnone] at h1; cases h1)]
          exact h1
        · rw[hn,H.get_new] at h
          by_cases hb:b=(C.Hh k).next
          · rw[if_pos hb] at h; cases h
            exact .inr ⟨k,by omega,by omega,ho,hc,hb,by rw[hn,H.get_new,if_pos rfl]⟩
          · rw[if_neg hb] at h
            rcases i2 b x h with r | ⟨p,r1,r2,r3⟩
            · exact .inl r
            · exact .inr ⟨p,r1,by omega,r3⟩
      · have hs:C.Hh (k+1)=C.Hh k:=z0me (by omega) fun ho=>⟨hne k (by omega) (by omega) ho,fun e=>ha ⟨ho,e⟩⟩
        rw[hs]
        refine⟨i1,fun b x h => ?_⟩
        rcases i2 b x h with r | ⟨p,r1,r2,r3⟩
        · exact .inl r
        · exact .inr ⟨p,r1,by omega,r3⟩
structure Inv (C:Ctx P tab M ops) (β0:Nat->Option Loc) (w0:World) (a0:Act) (listed:Array Bool) (a:Act) (w:World) (β:Nat->Option Loc) (q:Nat) (g:Nat->Option Blk):Prop where
 size:listed.size=ops.size
 closed:z0iq ops fun i=>listed.getD i false=true
 qm:q<=C.m
 rel:Rel tab β g w
 env:EnvR tab β (ebar (C.E 0) C.dst C.out (C.L listed) C.m) a
 front:∀p,p<C.m->C.L listed p=true->C.on p=true->C.cl p=.eff->p<q
 effq:∀r,q=r+1->C.L listed r=true/\C.on r=true/\C.cl r=.eff
 G1:∀b x,(C.Hh q).get b=some x->g b=some x
 G2:∀p,q<=p->p<C.m->C.L listed p=true->C.on p=true->C.cl p=.alloc->∀x,(C.Hh (p+1)).get (C.Hh p).next=some x->g (C.Hh p).next=some x
 G3:∀b x,g b=some x->(C.Hh q).get b=some x\/(x.wr=true/\∃p,q<=p/\p<C.m/\C.L listed p=true/\C.on p=true/\C.cl p=.alloc/\b=(C.Hh p).next)
 fresh:∀b,(C.Hh 0).next<=b->b<C.N->β b≠none->b<(C.Hh q).next\/∃p,q<=p/\p<C.m/\C.L listed p=true/\C.on p=true/\C.cl p=.alloc/\b=(C.Hh p).next
 trg:TrG β0 β (C.Hh 0) C.N g w0 w
 defers:a.defers=a0.defers
section
variable {β0:Nat->Option Loc}{w0:World}{a0:Act}{listed:Array Bool}{a:Act}{w:World}{β:Nat->Option Loc}{q:Nat}{g:Nat->Option Blk}
theorem z0lk (hs:listed.size=ops.size) {p i:Nat} (hp:C.s[p]?=some i):∀k,k<C.m->C.L (listed.setIfInBounds i true) k=(C.L listed k || decide (k=p)):=by
 intro k hk
 have hi:i<ops.size:=by simpa using C.sig.lt p i hp
 unfold L
 by_cases hkp:k=p
 ·subst hkp
  rw[zmm hp]
  simp[hs,hi]
 ·have hne:C.s.getD k 0≠i:=by
   intro e
   exact hkp (inj (at_ hk) (by rw[e]; exact hp))
  rw[Go.getD_set_ne false (fun e=>hne e.symm)]
  simp[hkp]
theorem zsu {i j:Nat}{as:List AOp}{l:List Oper} (h:z07l l as i j=true):∃a b,l[i]?=some a/\l[j]?=some b /\
  (∀t,a.dst=some t->b.dst≠some t/\t∉(as.getD j z51).tmps/\t∉zj7 l b)/\(∀t,b.dst=some t->t∉(as.getD i z51).tmps/\t∉zj7 l a) /\
  ((as.getD i z51).cls=.eff->(as.getD j z51).cls≠.eff/\(as.getD j z51).cls≠.read)/\((as.getD i z51).cls=.alloc->(as.getD j z51).cls≠.eff/\(as.getD j z51).cls≠.read):=by
 unfold z07l at h
 split at h
 ·rename_i a b ha hb
  simp only[Bool.and_eq_true,Bool.not_eq_true'] at h
  obtain⟨⟨h1,h2⟩,h3⟩:=h
  refine⟨a,b,ha,hb,fun t ht => ?_,fun t ht => ?_,fun hc => ?_,fun hc => ?_⟩
  ·rw[ht] at h1
   simp only[z03b,List.contains_eq_mem,List.mem_append,decide_eq_false_iff_not,not_or] at h1
   refine⟨fun e=>h1.1.1 (by simp[e]),h1.1.2,h1.2⟩
  ·rw[ht] at h2
   simpa [z03b,List.contains_eq_mem] using h2
  ·constructor <;> intro e <;> rw[hc,e] at h3 <;> cases h3
  ·constructor <;> intro e <;> rw[hc,e] at h3 <;> cases h3
 ·cases h
variable (I:Inv C β0 w0 a0 listed a w β q g)
include I
theorem Inv.hL {β':Nat->Option Loc}{a':Act}{w':World}{p i:Nat}{g':Nat->Option Blk}{q':Nat}{hb hb':H} (hp:C.s[p]?=some i) (hr:i∈Go.Region.ready .any ops listed)
  (hdst:∀k,p<k->k<C.m->C.L listed k=true->∀t,C.dst p=some t->C.dst k≠some t)
  (hg:∀b x,hb.get b=some x->g b=some x) (hE:EnvR tab β' (put (ebar (C.E 0) C.dst C.out (C.L listed) C.m) (C.dst p) (C.out p)) a') (hR:Rel tab β' hb'.get w') (ht:Tr β β' hb hb' w w')
  (hdef:a'.defers=a.defers) (hl:(C.Hh 0).next<=hb.next) (hn:hb'.next<=C.N) (hg':∀b x,g' b=some x->hb'.get b=some x\/(hb.get b=none/\g b=some x/\x.wr=true))
  (hq':q'<=C.m) (front:∀k,k<C.m->C.L listed k=true\/k=p->C.on k=true->C.cl k=.eff->k<q')
  (effq:∀r,q'=r+1->(C.L listed r=true\/r=p)/\C.on r=true/\C.cl r=.eff)
  (G1:∀b x,(C.Hh q').get b=some x->g' b=some x)
  (G2:∀k,q'<=k->k<C.m->C.L listed k=true\/k=p->C.on k=true->C.cl k=.alloc->∀x,(C.Hh (k+1)).get (C.Hh k).next=some x->g' (C.Hh k).next=some x)
  (G3:∀b x,g' b=some x->(C.Hh q').get b=some x\/(x.wr=true/\∃k,q'<=k/\k<C.m/\(C.L listed k=true\/k=p)/\C.on k=true/\C.cl k=.alloc/\b=(C.Hh k).next))
  (fresh:∀b,(C.Hh 0).next<=b->b<C.N->β' b≠none->b<(C.Hh q').next\/∃k,q'<=k/\k<C.m/\(C.L listed k=true\/k=p)/\C.on k=true/\C.cl k=.alloc/\b=(C.Hh k).next) :
  Inv C β0 w0 a0 (listed.setIfInBounds i true) a' w' β' q' g':=by
 have hi:i<ops.size:=by simpa using C.sig.lt p i hp
 have hLs:=z0lk I.size hp
 have hL:∀k,k<C.m->(C.L (listed.setIfInBounds i true) k=true<->(C.L listed k=true\/k=p)):=by
  intro k hk; rw[hLs k hk]; simp
 have hun:C.L listed p=false:=by
  have:=(Go.mem_ready.mp hr).1
  unfold L; rw[zmm hp]
  have hsz:i<listed.size:=by rw[I.size]; exact hi
  simpa [hsz] using this
 refine { size:=by simpa using I.size,closed := ?_,qm:=hq',rel:=join I.rel hg ht hR hg',env := ?_,front := ?_,effq := ?_,G1:=G1,G2 := ?_,G3 := ?_,fresh := ?_,trg:=I.trg.step I.rel hg ht hl hn hg',defers:=hdef.trans I.defers }
 ·intro j o hj ho e he hbi
  by_cases hji:i=j
  ·subst hji
   obtain⟨_,o',ho',hal⟩:=Go.mem_ready.mp hr
   rw[ho] at ho'; cases ho'
   exact Go.getD_set_true (hal e he hbi)
  ·rw[Go.getD_set_ne false hji] at hj
   exact Go.getD_set_true (I.closed j o hj ho e he hbi)
 ·rw[z0id (z076 hp) hun hLs hdst]
  exact hE
 ·intro k hk h1 h2 h3; exact front k hk ((hL k hk).mp h1) h2 h3
 ·intro r hr2
  obtain⟨h1,h2,h3⟩:=effq r hr2
  exact⟨(hL r (by omega)).mpr h1,h2,h3⟩
 ·intro k h0 hk h1 h2 h3; exact G2 k h0 hk ((hL k hk).mp h1) h2 h3
 ·intro b x hb
  rcases G3 b x hb with r | ⟨r,k,h1,h2,h3,h4⟩
  ·exact .inl r
  ·exact .inr ⟨r,k,h1,h2,(hL k h2).mpr h3,h4⟩
 ·intro b h1 h2 h3
  rcases fresh b h1 h2 h3 with r | ⟨k,r1,r2,r3,r4⟩
  ·exact .inl r
  ·exact .inr ⟨k,r1,r2,(hL k r2).mpr r3,r4⟩
theorem Inv.same {β':Nat->Option Loc}{a':Act}{w':World}{p i:Nat}{hb:H} (hp:C.s[p]?=some i) (hr:i∈Go.Region.ready .any ops listed)
  (hdst:∀k,p<k->k<C.m->C.L listed k=true->∀t,C.dst p=some t->C.dst k≠some t)
  (hon:C.on p=true->C.cl p≠.eff/\C.cl p≠.alloc)
  (hg:∀b x,hb.get b=some x->g b=some x) (hgw:∀b x,g b=some x->hb.get b=some x\/x.wr=true) (hE:EnvR tab β' (put (ebar (C.E 0) C.dst C.out (C.L listed) C.m) (C.dst p) (C.out p)) a') (hR:Rel tab β' hb.get w') (ht:Tr β β' hb hb w w')
  (hdef:a'.defers=a.defers) (hl:(C.Hh 0).next<=hb.next) (hn:hb.next<=C.N):Inv C β0 w0 a0 (listed.setIfInBounds i true) a' w' β' q g:=by
 refine I.hL hp hr hdst hg hE hR ht hdef hl hn ?_ I.qm ?_ ?_ I.G1 ?_ ?_ ?_
 ·intro b x hx
  rcases hgw b x hx with r | r
  ·exact .inl r
  ·cases hq:hb.get b with
   | none=>exact .inr ⟨rfl,hx,r⟩
   | some y=>have:=hg b y hq; rw[hx] at this; cases this; exact .inl rfl
 ·intro k hk h1 h2 h3
  rcases h1 with h1 | rfl
  ·exact I.front k hk h1 h2 h3
  ·exact absurd h3 (hon h2).1
 ·intro r hr2; exact⟨.inl (I.effq r hr2).1,(I.effq r hr2).2⟩
 ·intro k h0 hk h1 h2 h3
  rcases h1 with h1 | rfl
  ·exact I.G2 k h0 hk h1 h2 h3
  ·exact absurd h3 (hon h2).2
 ·intro b x hb
  rcases I.G3 b x hb with r | ⟨r,k,h1,h2,h3,h4⟩
  ·exact .inl r
  ·exact .inr ⟨r,k,h1,h2,.inl h3,h4⟩
 ·intro b h1 h2 h3
  have h3':β b≠none:=by
   rcases ht.dom b h3 with r | r
   ·exact r
   ·omega
  rcases I.fresh b h1 h2 h3' with r | ⟨k,r1,r2,r3,r4⟩
  ·exact .inl r
  ·exact .inr ⟨k,r1,r2,.inl r3,r4⟩
theorem Inv.facts {p i:Nat} (hp:C.s[p]?=some i) (hr:i∈Go.Region.ready .any ops listed):C.L listed p=false /\
  (∀k j,k<p->C.s[k]?=some j->C.L listed k=false->z07l ops.toList (ops.toList.map (cOpF P tab)) j i=true) /\
  (∀k j,p<k->C.s[k]?=some j->C.L listed k=true->zgt (Go.Region.before ops).toList i j=false/\z07l ops.toList (ops.toList.map (cOpF P tab)) i j=true):=by
 have hi:i<ops.size:=by simpa using C.sig.lt p i hp
 obtain⟨hn,o,ho,hal⟩:=Go.mem_ready.mp hr
 have hsz:i<listed.size:=by rw[I.size]; exact hi
 have hn':listed.getD i false=false:=by simpa [hsz] using hn
 refine⟨by unfold L; rw[zmm hp]; exact hn',?_,?_⟩
 ·intro k j hk hj hL
  obtain⟨_,_,h | h⟩:=C.sig.two k j p i hj hp hk
  ·have:=z06z I.closed (z068 h) (fun o' ho' e he hb=>by rw[ho] at ho'; cases ho'; exact hal e he hb)
   unfold L at hL; rw[zmm hj] at hL
   rw[hL] at this; cases this
  ·exact h
 ·intro k j hk hj hL
  unfold L at hL; rw[zmm hj] at hL
  have hna:zgt (Go.Region.before ops).toList i j=false:=by
   cases h:zgt (Go.Region.before ops).toList i j with
   | false=>rfl
   | true =>
    have:=z06z I.closed (z068 h) (fun o' ho' e he hb=>I.closed j o' hL ho' e he hb)
    rw[hn'] at this; cases this
  obtain⟨_,_,h | h⟩:=C.sig.two p i k j hp hj hk
  ·rw[hna] at h; cases h
  ·exact⟨hna,h⟩
end
end Ctx
end Wm
