/- Regions. -/
import Derived.Test.YthkimcdeejjmbaaWmDrawC
set_option linter.all false
namespace Wm
open Go (Value Addr World Obj Program IntKind TypeId Oper Operand Act Exit Sem TypeDesc)
theorem Rel.heap {tab:Tab}{β:Nat->Option Loc}{g:Nat->Option Blk}{w w':World} (h:Rel tab β g w) (he:w'.heap=w.heap):Rel tab β g w':=by
 refine⟨fun b x hb => ?_,h.sep⟩
 obtain⟨l,hl,hB⟩:=h.blk b x hb
 exact⟨l,hl,hB.keep (Ext.refl _) (by rw[he]; exact Nat.le_refl _) (by rw[he])⟩
theorem zsn {bs:List Nat}{cl:List Cls}:∀ {n done:Nat}{l:List Nat},(zvv bs cl n done l).length<=n
 | 0,_,_=>by simp[zvv]
 | n+1,done,l=>by
  simp only[zvv]
  split
  ·simpa using zsn
  ·split
   ·simpa using zsn
   ·split
    ·simpa using zsn
    ·simp
theorem z0mo {listed:Array Bool}{i:Nat} (h:i<listed.size):listed.getD i true=listed.getD i false:=by simp[h]
namespace Ctx
variable {P:Program}{tab:Tab}{M:Env}{ops:Array Oper}{C:Ctx P tab M ops}{Q:Exit->Act->World->Prop}
variable {β0:Nat->Option Loc}{w0:World}{a0:Act}{listed:Array Bool}{a:Act}{w:World}{β:Nat->Option Loc}{q:Nat}{g:Nat->Option Blk}
theorem z07u {l:List Oper}{o:Oper}{g:Option (Nat × Bool)} (h:gOf l o=some g):∀t b,g=some (t,b)->t∈zj7 l o:=by
 intro t b e
 subst e
 unfold gOf at h
 unfold zj7
 split at h
 ·cases h
 ·rename_i j w hg
  split at h
  ·rename_i t' ht; cases h; rw[hg]; simp[ht]
  ·cases h
theorem z0e0 {e1 e2:List V}{g:Option (Nat × Bool)} (h:∀t b,g=some (t,b)->e1.getD t .undef=e2.getD t .undef):zd4 e1 g=zd4 e2 g:=by
 cases g with
 | none=>rfl
 | some x=>obtain⟨t,b⟩:=x; simp only[zd4,h t b rfl]
theorem z0iu {p r t:Nat} (hpr:p<=r) (hr:r<=C.m) (h:∀k,p<=k->k<r->C.dst k≠some t):(C.E r).getD t .undef=(C.E p).getD t .undef:=by
  induction r with
  | zero => have : p = 0 := by omega
            subst this; rfl
  | succ r ih =>
    by_cases hq:p=r+1
    · subst hq; rfl
    · rw[(C.st (by omega)).env,zvx (h r (by omega) (by omega)),ih (by omega) (by omega) fun k a b=>h k a (by omega)]
theorem z0ne {p r i j:Nat} (hp:C.s[p]?=some i) (hr:C.s[r]?=some j) (hpr:p<r) (hna:zgt (Go.Region.before ops).toList i j=false) (hcp:C.cl p=.read) (hor:C.on r=true) (hcr:C.cl r=.eff) (hop:C.on p=true)
  {e:List V} (he:Like (C.A p).tmps e (C.E p)):sd M (C.A p) e (C.Hh (r+1))=some (C.out p,C.Hh (r+1)):=by
 have hrm:=z076 hr
 have hpm:=z076 hp
 have hs:=C.st hrm
 rw[zmm hr] at hs
 have hAr:C.A r=(ops.toList.map (cOpF P tab)).getD j z51:=by unfold A; rw[zmm hr]
 have hAp:C.A p=(ops.toList.map (cOpF P tab)).getD i z51:=by unfold A; rw[zmm hp]
 obtain⟨c,hc,hok⟩:=(hs.yes hor).2 (by rw[<-hAr]; exact hcr)
 have hrl:r<C.s.length:=hrm
 have hk:(C.s.take r).reverse[r-1-p]?=some i:=by
  rw[List.getElem?_reverse (by simp; omega)]
  simp only[List.length_take,Nat.min_eq_left (Nat.le_of_lt hrl)]
  rw[List.getElem?_take,if_pos (by omega),show r-1-(r-1-p)=p by omega]
  exact hp
 obtain⟨later,ci,h1,h2,h3⟩:=z0h8 hc _ _ hk
 have hlater:∀k t,p<k->k<r->C.dst k=some t->t∈later:=by
  intro k t hk1 hk2 ht
  have hkm:k<C.m:=by omega
  obtain⟨o,ho,_,hd⟩:=(C.st hkm).op
  refine h3 (r-1-k) (C.s.getD k 0) t (by omega) ?_ (by rw[ho]; simp only[Option.bind_some]; rw[hd,ht])
  rw[List.getElem?_reverse (by simp; omega)]
  simp only[List.length_take,Nat.min_eq_left (Nat.le_of_lt hrl)]
  rw[List.getElem?_take,if_pos (by omega),show r-1-(r-1-k)=k by omega]
  exact at_ hkm
 unfold z08q at h1
 rw[hna,<-hAp] at h1
 have hcp':(C.A p).cls=.read:=hcp
 rw[hcp'] at h1
 simp only at h1
 obtain⟨o,ho,hgo,hd⟩:=(C.st hpm).op
 rw[zmm hp] at ho
 rw[ho] at h1
 simp only[hgo,hd] at h1
 split at h1
 ·rename_i _ _ d gg hdd hgg
  cases hgg
  split at h1
  ·rename_i hcond
   cases h1
   simp only[Bool.and_eq_true,Bool.not_eq_true',List.any_eq_false,Bool.or_eq_true,not_or,List.contains_eq_mem,decide_eq_true_eq,decide_eq_false_iff_not,List.mem_append] at hcond
   obtain⟨⟨hread,hlat⟩,hself⟩:=hcond
   have hch:=h2 _ (List.mem_singleton.mpr rfl)
   have hck:=List.all_eq_true.mp hok _ hch
   -- the environment is what it was
   have htm:∀t,t∈(C.A p).tmps\/t∈zj7 ops.toList o->(C.E r).getD t .undef=(C.E p).getD t .undef:=by
    intro t ht
    refine z0iu (by omega) (by omega) fun k k1 k2 hkd => ?_
    by_cases hkp:k=p
    ·subst hkp
     rw[hdd] at hkd; cases hkd
     exact ht.elim hself.1 hself.2
    ·exact ht.elim (hlat t (hlater k t (by omega) k2 hkd)).2.1 (hlat t (hlater k t (by omega) k2 hkd)).2.2
   have hd1:(C.E r).getD d .undef=(C.E (p+1)).getD d .undef:=by
    refine z0iu (by omega) (by omega) fun k k1 k2 hk => ?_
    have:=(hlat d (hlater k d (by omega) k2 hk)).1
    simp at this
   have hw:=(C.st hpm).want
   rw[hop] at hw
   have hsame:same (C.E r) d ((C.A p).again (C.E r) (C.Hh (r+1)))=true:=by
    unfold Chk.ok at hck
    simp only at hck
    split at hck
    ·exact hck
    ·rename_i t b hgt
     have ht:=z07u hgo t b hgt
     rw[hgt] at hw
     simp only[zd4,<-htm t (.inr ht)] at hw
     split at hw
     ·rename_i b' hb'
      rw[hb'] at hck
      simp only at hck
      simp only[Option.some.injEq] at hw
      rw[hw] at hck
      exact hck
     ·cases hw
     ·cases hw
   unfold same at hsame
   split at hsame
   ·rename_i v hv
    split at hsame
    ·rename_i u hu
     have huv:=V.beq_eq _ _ hsame
     subst huv
     have hEd:(C.E r).getD d .undef=v:=by simp[List.getD_eq_getElem?_getD,hu]
     have hlen:d<(C.E r).length:=(List.getElem?_eq_some_iff.mp hu).1
     have hout:v=C.out p:=by
      rw[<-hEd,hd1,(C.st hpm).env,hdd]
      have l1:(C.E r).length=(C.E 0).length:=z032 (dst:=C.dst) (out:=C.out) rfl fun k hk=>(C.st (by omega)).env
      have l2:(C.E p).length=(C.E 0).length:=z032 (dst:=C.dst) (out:=C.out) rfl fun k hk=>(C.st (by omega)).env
      simp only[put,List.getD_eq_getElem?_getD,List.getElem?_set]
      have hd3:d<(C.E p).length:=Nat.lt_of_lt_of_eq hlen (l1.trans l2.symm)
      simp[hd3]
     rw[<-hout]
     have hlike:Like (C.A p).tmps e (C.E r):=fun t ht=>by rw[he t ht,htm t (.inl ht)]
     exact z091 hread (by rw[z0hu hlike]; exact hv)
    ·cases hsame
   ·cases hsame
  ·cases h1
 ·cases h1
theorem draw (hC:zfp P tab M.call) (hM:zkb P tab M.meth) (I:Inv C β0 w0 a0 listed a w β q g) {i:Nat} (hr:i∈Go.Region.ready .any ops listed) :
    Go.wpOp P ops Q i (fun a' w'=>∃β' q' g',Inv C β0 w0 a0 (listed.setIfInBounds i true) a' w' β' q' g') a w:=by
  obtain⟨hi',o,ho,hal⟩:=Go.mem_ready.mp hr
  have hi:i<ops.size:=(Array.getElem?_eq_some_iff.mp ho).1
  obtain⟨p,hp⟩:=C.mem i hi
  have hpm:=z076 hp
  obtain⟨hun,hbef,haft⟩:=I.facts hp hr
  have hst:=C.st hpm
  rw[zmm hp] at hst
  obtain⟨o',ho',hgo,hdo⟩:=hst.op
  have hoo:o'=o:=by
    have:ops[i]?=some o':=by simpa using ho'
    rw[ho] at this; cases this; rfl
  subst hoo
  have hAp:C.A p=cOpF P tab o':=by
    unfold A; rw[zmm hp,List.getD_eq_getElem?_getD,List.getElem?_map,ho']; rfl
  have hAg:(ops.toList.map (cOpF P tab)).getD i z51=C.A p:=by unfold A; rw[zmm hp]
  -- of temporaries
  have like:∀t,t∈(C.A p).tmps\/t∈zj7 ops.toList o'->(ebar (C.E 0) C.dst C.out (C.L listed) C.m).getD t .undef=(C.E p).getD t .undef:=by
    intro t ht
    refine z0in rfl (fun k hk=>(C.st hk).env) (Nat.le_of_lt hpm) ?_ ?_
    · intro k hk hd
      cases hLk:C.L listed k with
      | true=>rfl
      | false =>
        obtain⟨x,y,hx,hy,h1,_⟩:=zsu (hbef k _ hk (at_ (by omega)) hLk)
        rw[ho'] at hy; cases hy
        obtain⟨z,hz,_,hzd⟩:=(C.st (show k<C.m by omega)).op
        rw[hx] at hz; cases hz
        have:=h1 t (by rw[hzd,hd])
        rw[hAg] at this
        rcases ht with ht | ht
        · exact absurd ht this.2.1
        · exact absurd ht this.2.2
    · intro k hk hkm hLk hd
      have hpk:p<k:=by
        rcases Nat.lt_or_eq_of_le hk with h | h
        · exact h
        · subst h; rw[hun] at hLk; cases hLk
      obtain⟨x,y,hx,hy,_,h2,_⟩:=zsu (haft k _ hpk (at_ hkm) hLk).2
      rw[ho'] at hx; cases hx
      obtain⟨z,hz,_,hzd⟩:=(C.st hkm).op
      rw[hy] at hz; cases hz
      have:=h2 t (by rw[hzd,hd])
      rw[hAg] at this
      rcases ht with ht | ht
      · exact this.1 ht
      · exact this.2 ht
  have hlike:Like (C.A p).tmps (ebar (C.E 0) C.dst C.out (C.L listed) C.m) (C.E p):=fun t ht=>like t (.inl ht)
  have hdst:∀k,p<k->k<C.m->C.L listed k=true->∀t,C.dst p=some t->C.dst k≠some t:=by
    intro k hpk hkm hLk t ht
    obtain⟨x,y,hx,hy,h1,_⟩:=zsu (haft k _ hpk (at_ hkm) hLk).2
    rw[ho'] at hx; cases hx
    obtain⟨z,hz,_,hzd⟩:=(C.st hkm).op
    rw[hy] at hz; cases hz
    rw[<-hzd]
    exact(h1 t (by rw[hdo,ht])).1
  have hwant:zd4 (ebar (C.E 0) C.dst C.out (C.L listed) C.m) (C.gd p)=some (C.on p):=by
    rw[z0e0 fun t b e=>like t (.inr (z07u hgo t b e))]
    exact hst.want
  -- the classes' order
  have cb:∀k,k<p->C.L listed k=false->(C.cl k=.eff->C.cl p≠.eff/\C.cl p≠.read)/\(C.cl k=.alloc->C.cl p≠.eff/\C.cl p≠.read):=by
    intro k hk hLk
    obtain⟨_,_,_,_,_,_,h3,h4⟩:=zsu (hbef k _ hk (at_ (by omega)) hLk)
    rw[hAg] at h3 h4
    exact⟨h3,h4⟩
  have ca:∀k,p<k->k<C.m->C.L listed k=true->(C.cl p=.eff->C.cl k≠.eff)/\(C.cl p=.alloc->C.cl k≠.eff):=by
    intro k hk hkm hLk
    obtain⟨_,_,_,_,_,_,h3,h4⟩:=zsu (haft k _ hk (at_ hkm) hLk).2
    rw[hAg] at h3 h4
    exact⟨fun h=>(h3 h).1,fun h=>(h4 h).1⟩
  have hqm:=I.qm
  have run:∀ {h h':H}{K:Act->World->Prop},ex1 M (C.gd p) { dst:=o'.dst,op:=cOpF P tab o',chk:=[] } (ebar (C.E 0) C.dst C.out (C.L listed) C.m) h=some (put (ebar (C.E 0) C.dst C.out (C.L listed) C.m) (C.dst p) (C.out p),h') ->
      Rel tab β h.get w->zi6 β h h'->(∀a' w' β',EnvR tab β' (put (ebar (C.E 0) C.dst C.out (C.L listed) C.m) (C.dst p) (C.out p)) a'->Rel tab β' h'.get w'->Tr β β' h h' w w'->a'.defers=a.defers->K a' w')->Go.wpOp P ops Q i K a w :=
    fun hx hR hF hK=>z0js hC hM ho rfl rfl hgo hx hR I.env hF hK
  have mk:∀ {h h':H},C.on p=true->sd M (C.A p) (ebar (C.E 0) C.dst C.out (C.L listed) C.m) h=some (C.out p,h')->ex1 M (C.gd p) { dst:=o'.dst,op:=cOpF P tab o',chk:=[] } (ebar (C.E 0) C.dst C.out (C.L listed) C.m) h=some (put (ebar (C.E 0) C.dst C.out (C.L listed) C.m) (C.dst p) (C.out p),h'):=by
    intro h h' ho2 hs
    rw[zvf (by rw[hwant,ho2]) (by rw[<-hAp]; exact hs) (by rfl),hdo]
  have noF:∀h:H,zi6 β h h:=fun h b h1 h2=>by omega
  have relq:Rel tab β (C.Hh q).get w:=I.rel.anti I.G1
  have l0q:(C.Hh 0).next<=(C.Hh q).next:=zd8 (Nat.zero_le _) hqm
  have g3q:∀b x,g b=some x->(C.Hh q).get b=some x\/x.wr=true:=fun b x h=>(I.G3 b x h).imp id fun r=>r.1
  cases hon:C.on p with
  | false =>
    refine run (h:=C.Hh q) (h':=C.Hh q) ?_ relq (noF _) fun a' w' β' h1 h2 h3 h4=>⟨β',q,g,I.same hp hr hdst (by rw[hon]; intro h; cases h) I.G1 g3q h1 h2 h3 h4 l0q (zwl hqm)⟩
    rw[zn7 (by rw[hwant,hon]),hdo,(off hpm hon).1]
  | true =>
    have hsd:=sdp hpm hon
    have hsdl:∀h,sd M (C.A p) (ebar (C.E 0) C.dst C.out (C.L listed) C.m) h=sd M (C.A p) (C.E p) h:=fun h=>z0mq hlike h
    cases hcl:C.cl p with
    | pure =>
      refine run (h:=C.Hh q) (h':=C.Hh q) (mk hon ?_) relq (noF _) fun a' w' β' h1 h2 h3 h4=>⟨β',q,g,I.same hp hr hdst (by rw[hcl]; intro _; exact⟨(fun e=>by cases e),fun e=>by cases e⟩) I.G1 g3q h1 h2 h3 h4 l0q (zwl hqm)⟩
      rw[hsdl]; exact(z0ad hcl hsd).2 _
    | read =>
      have hnn:C.on p=true->C.cl p≠.eff/\C.cl p≠.alloc:=by rw[hcl]; intro _; exact⟨(fun e=>by cases e),fun e=>by cases e⟩
      rcases Nat.lt_or_ge p q with hpq | hpq
      · -- an effect came zgt that stands behind it in mine
        obtain⟨r,rfl⟩:∃r,q=r+1:=⟨q-1,by omega⟩
        obtain⟨hLr,hor,hcr⟩:=I.effq r rfl
        have hpr:p<r:=by
          rcases Nat.lt_or_eq_of_le (show p<=r by omega) with h | h
          · exact h
          · subst h; rw[hun] at hLr; cases hLr
        have hrm:r<C.m:=by omega
        refine run (h:=C.Hh (r+1)) (h':=C.Hh (r+1)) (mk hon ?_) relq (noF _) fun a' w' β' h1 h2 h3 h4=>⟨β',_,g,I.same hp hr hdst hnn I.G1 g3q h1 h2 h3 h4 l0q (zwl hqm)⟩
        exact z0ne hp (at_ hrm) hpr (haft r _ hpr (at_ hrm) hLr).1 hcl hor hcr hon hlike
      · have hbt:=z02n (C:=C) hpq (Nat.le_of_lt hpm) fun k k1 k2 ko ke=>by
          cases hLk:C.L listed k with
          | false=>exact absurd hcl ((cb k k2 hLk).1 ke).2
          | true=>have:=I.front k (by omega) hLk ko ke; omega
        have hsub:∀b x,(C.Hh p).get b=some x->g b=some x:=by
          intro b x h
          rcases hbt.2 b x h with r | ⟨k,k1,k2,k3,k4,rfl,k5⟩
          · exact I.G1 b x r
          · cases hLk:C.L listed k with
            | false=>exact absurd hcl ((cb k k2 hLk).2 k4).2
            | true=>exact I.G2 k k1 (by omega) hLk k3 k4 x k5
        refine run (h:=C.Hh p) (h':=C.Hh p) (mk hon ?_) (I.rel.anti hsub) (noF _) fun a' w' β' h1 h2 h3 h4=>⟨β',q,g,I.same hp hr hdst hnn hsub ?_ h1 h2 h3 h4 (zd8 (Nat.zero_le _) (Nat.le_of_lt hpm)) (zwl (Nat.le_of_lt hpm))⟩
        · rw[hsdl]
          have h1:=(z0a5 hcl hsd).1
          rw[h1] at hsd; exact hsd
        · intro b x h
          rcases I.G3 b x h with r | r
          · exact .inl (hbt.1 b x r)
          · exact .inr r.1
    | alloc =>
      have hpq:q<=p:=by
        rcases Nat.lt_or_ge p q with hpq | hpq
        · obtain⟨r,rfl⟩:∃r,q=r+1:=⟨q-1,by omega⟩
          obtain⟨hLr,hor,hcr⟩:=I.effq r rfl
          have hpr:p<r:=by
            rcases Nat.lt_or_eq_of_le (show p<=r by omega) with h | h
            · exact h
            · subst h; rw[hun] at hLr; cases hLr
          exact absurd hcr ((ca r hpr (by omega) hLr).2 hcl)
        · exact hpq
      obtain⟨blk,hbw,hnew,hall⟩:=z03g hpm hon hcl
      have hnx:(C.Hh (p+1)).next=(C.Hh p).next+1:=zth hpm hon hcl
      have hnN:(C.Hh (p+1)).next<=C.N:=zwl hpm
      have hqp:(C.Hh q).next<=(C.Hh p).next:=zd8 hpq (Nat.le_of_lt hpm)
      have hqnone:(C.Hh q).get (C.Hh p).next=none:=z07a hqm hqp (by omega)
      have hothers:∀k,k<C.m->C.on k=true->C.cl k=.alloc->k≠p->(C.Hh k).next≠(C.Hh p).next:=by
        intro k hk k1 k2 k3 e
        rcases Nat.lt_or_gt_of_ne k3 with h | h
        · have h1:=zth hk k1 k2
          have h2:(C.Hh (k+1)).next<=(C.Hh p).next:=zd8 h (Nat.le_of_lt hpm)
          omega
        · have h2:(C.Hh (p+1)).next<=(C.Hh k).next:=zd8 h (Nat.le_of_lt hk)
          omega
      have hgnone:g (C.Hh p).next=none:=by
        cases hq:g (C.Hh p).next with
        | none=>rfl
        | some x =>
          rcases I.G3 _ _ hq with r | ⟨_,k,k1,k2,k3,k4,k5,k6⟩
          · rw[hqnone] at r; cases r
          · refine absurd k6.symm (hothers k k2 k4 k5 ?_)
            intro e; subst e; rw[hun] at k3; cases k3
      have hfresh:β (C.Hh p).next=none:=by
        cases hq:β (C.Hh p).next with
        | none=>rfl
        | some x =>
          rcases I.fresh (C.Hh p).next (zd8 (Nat.zero_le _) (Nat.le_of_lt hpm)) (by omega) (by rw[hq]; simp) with r | ⟨k,k1,k2,k3,k4,k5,k6⟩
          · omega
          · refine absurd k6.symm (hothers k k2 k4 k5 ?_)
            intro e; subst e; rw[hun] at k3; cases k3
      refine run (h:={ (C.Hh q) with next:=(C.Hh p).next }) (h':=({ (C.Hh q) with next:=(C.Hh p).next }:H).new blk) (mk hon (by rw[hsdl]; exact hall _ rfl)) (I.rel.anti I.G1) ?_ ?_
      · intro b h1 h2
        simp only[H.next_new] at h1 h2
        have:b=(C.Hh p).next:=by omega
        subst this; exact hfresh
      · intro a' w' β' h1 h2 h3 h4
        have hgn:∀b,(({ (C.Hh q) with next:=(C.Hh p).next }:H).new blk).get b=if b=(C.Hh p).next then some blk else (C.Hh q).get b:=fun b=>H.get_new _ _ _
        refine⟨β',q,fun b=>if b=(C.Hh p).next then some blk else g b,I.hL hp hr hdst (hb:={ (C.Hh q) with next:=(C.Hh p).next }) I.G1 h1 h2 h3 h4 ?_ ?_ ?_ hqm ?_ ?_ ?_ ?_ ?_ ?_⟩
        · exact zd8 (Nat.zero_le _) (Nat.le_of_lt hpm)
        · simp only[H.next_new]; omega
        · intro b x hb
          try simp only at hb
          rw[hgn]
          by_cases e:b=(C.Hh p).next
          · rw[if_pos e] at hb; rw[if_pos e]; exact .inl hb
          · rw[if_neg e] at hb; rw[if_neg e]
            cases hq:(C.Hh q).get b with
            | none => exact .inr ⟨hq, hb, by rcases I.G3 b x hb with r | r
                                             · rw[hq] at r; cases r
                                             · exact r.1⟩
            | some y=>have:=I.G1 b y hq; rw[hb] at this; cases this; exact .inl rfl
        · intro k hk k1 k2 k3
          rcases k1 with k1 | rfl
          · exact I.front k hk k1 k2 k3
          · rw[hcl] at k3; cases k3
        · intro r hr2; exact⟨.inl (I.effq r hr2).1,(I.effq r hr2).2⟩
        · intro b x hb
          show(if b=(C.Hh p).next then some blk else g b)=some x
          rw[if_neg (by intro e; subst e; rw[hqnone] at hb; cases hb)]
          exact I.G1 b x hb
        · intro k k0 hk k1 k2 k3 x hx
          show(if (C.Hh k).next=(C.Hh p).next then some blk else g (C.Hh k).next)=some x
          by_cases e:k=p
          · subst e
            rw[if_pos rfl]
            rw[hnew,H.get_new,if_pos rfl] at hx; exact hx
          · rw[if_neg (hothers k hk k2 k3 e)]
            exact I.G2 k k0 hk (k1.resolve_right e) k2 k3 x hx
        · intro b x hb
          try simp only at hb
          by_cases e:b=(C.Hh p).next
          · rw[if_pos e] at hb; cases hb
            exact .inr ⟨hbw,p,hpq,hpm,.inr rfl,hon,hcl,e⟩
          · rw[if_neg e] at hb
            rcases I.G3 b x hb with r | ⟨r,k,k1,k2,k3,k4⟩
            · exact .inl r
            · exact .inr ⟨r,k,k1,k2,.inl k3,k4⟩
        · intro b b1 b2 b3
          rcases h3.dom b b3 with r | ⟨r1,r2⟩
          · rcases I.fresh b b1 b2 r with s | ⟨k,k1,k2,k3,k4⟩
            · exact .inl s
            · exact .inr ⟨k,k1,k2,.inl k3,k4⟩
          · simp only[H.next_new] at r1 r2
            exact .inr ⟨p,hpq,hpm,.inr rfl,hon,hcl,by omega⟩
    | eff =>
      have hpq:q<=p:=by
        rcases Nat.lt_or_ge p q with hpq | hpq
        · obtain⟨r,rfl⟩:∃r,q=r+1:=⟨q-1,by omega⟩
          obtain⟨hLr,hor,hcr⟩:=I.effq r rfl
          have hpr:p<r:=by
            rcases Nat.lt_or_eq_of_le (show p<=r by omega) with h | h
            · exact h
            · subst h; rw[hun] at hLr; cases hLr
          exact absurd hcr ((ca r hpr (by omega) hLr).1 hcl)
        · exact hpq
      have hbt:=z02n (C:=C) hpq (Nat.le_of_lt hpm) fun k k1 k2 ko ke=>by
        cases hLk:C.L listed k with
        | false=>exact absurd hcl ((cb k k2 hLk).1 ke).1
        | true=>have:=I.front k (by omega) hLk ko ke; omega
      have hsub:∀b x,(C.Hh p).get b=some x->g b=some x:=by
        intro b x h
        rcases hbt.2 b x h with r | ⟨k,k1,k2,k3,k4,rfl,k5⟩
        · exact I.G1 b x r
        · cases hLk:C.L listed k with
          | false=>exact absurd hcl ((cb k k2 hLk).2 k4).1
          | true=>exact I.G2 k k1 (by omega) hLk k3 k4 x k5
      have hn1:(C.Hh p).next<=(C.Hh (p+1)).next:=z0hl hpm
      have hnN:(C.Hh (p+1)).next<=C.N:=zwl hpm
      have hqp:(C.Hh q).next<=(C.Hh p).next:=zd8 hpq (Nat.le_of_lt hpm)
      have h0p:(C.Hh 0).next<=(C.Hh p).next:=zd8 (Nat.zero_le _) (Nat.le_of_lt hpm)
      have before:∀k,k<p->C.on k=true->C.cl k=.alloc->(C.Hh k).next<(C.Hh p).next:=by
        intro k hk k1 k2
        have h1:=zth (C:=C) (p:=k) (by omega) k1 k2
        have h2:(C.Hh (k+1)).next<=(C.Hh p).next:=zd8 hk (Nat.le_of_lt hpm)
        omega
      have behind:∀k,p<k->k<C.m->(C.Hh (p+1)).next<=(C.Hh k).next:=fun k h1 h2=>zd8 h1 (Nat.le_of_lt h2)
      have hpne:∀k,C.cl k=.alloc->k≠p:=by intro k h e; subst e; rw[hcl] at h; cases h
      refine run (h:=C.Hh p) (h':=C.Hh (p+1)) (mk hon (by rw[hsdl]; exact hsd)) (I.rel.anti hsub) ?_ ?_
      · intro b h1 h2
        cases hq:β b with
        | none=>rfl
        | some x =>
          rcases I.fresh b (by omega) (by omega) (by rw[hq]; simp) with r | ⟨k,k1,k2,k3,k4,k5,k6⟩
          · omega
          · rcases Nat.lt_or_gt_of_ne (hpne k k5) with h | h
            · have:=before k h k4 k5; omega
            · have:=behind k h k2; omega
      · intro a' w' β' h1 h2 h3 h4
        refine⟨β',p+1,fun b=>match (C.Hh (p+1)).get b with | some x=>some x | none=>match (C.Hh p).get b with | some _=>none | none=>g b,I.hL hp hr hdst hsub h1 h2 h3 h4 h0p hnN ?_ (by omega) ?_ ?_ ?_ ?_ ?_ ?_⟩
        · intro b x hb
          try simp only at hb
          split at hb
          · rename_i y hy; cases hb; exact .inl hy
          · split at hb
            · cases hb
            · rename_i hn
              refine .inr ⟨hn,hb,?_⟩
              rcases I.G3 b x hb with r | r
              · rw[hbt.1 b x r] at hn; cases hn
              · exact r.1
        · intro k hk k1 k2 k3
          rcases k1 with k1 | rfl
          · have:=I.front k hk k1 k2 k3; omega
          · omega
        · intro r hr2
          have:r=p:=by omega
          subst this; exact⟨.inr rfl,hon,hcl⟩
        · intro b x hb
          show(match (C.Hh (p+1)).get b with | some x=>some x | none=>match (C.Hh p).get b with | some _=>none | none=>g b)=some x
          rw[hb]
        · intro k k0 hk k1 k2 k3 x hx
          have hkN:(C.Hh k).next<C.N:=by
            have:=zth hk k2 k3
            have:=zwl (C:=C) (p:=k+1) (by omega)
            omega
          have hbk:=behind k (by omega) hk
          have e1:(C.Hh (p+1)).get (C.Hh k).next=none:=z07a (by omega) hbk hkN
          have e2:(C.Hh p).get (C.Hh k).next=none:=z07a (by omega) (by omega) hkN
          show(match (C.Hh (p+1)).get (C.Hh k).next with | some x=>some x | none=>match (C.Hh p).get (C.Hh k).next with | some _=>none | none=>g (C.Hh k).next)=some x
          rw[e1,e2]
          exact I.G2 k (by omega) hk (k1.resolve_right (hpne k k3)) k2 k3 x hx
        · intro b x hb
          try simp only at hb
          split at hb
          · rename_i y hy; cases hb; exact .inl hy
          · split at hb
            · cases hb
            · rename_i hn
              rcases I.G3 b x hb with r | ⟨r,k,k1,k2,k3,k4,k5,k6⟩
              · rw[hbt.1 b x r] at hn; cases hn
              · refine .inr ⟨r,k,?_,k2,.inl k3,k4,k5,k6⟩
                rcases Nat.lt_or_gt_of_ne (hpne k k5) with h | h
                · exfalso
                  obtain⟨bk,_,hbk,_⟩:=z03g k2 k4 k5
                  have hin:(C.Hh (k+1)).get b=some bk:=by rw[hbk,H.get_new,if_pos k6]
                  have:=(z02n (C:=C) (q:=k+1) (k:=p) h (Nat.le_of_lt hpm) fun k' a1 a2 ko ke=>by
                    cases hLk:C.L listed k' with
                    | false=>exact absurd hcl ((cb k' a2 hLk).1 ke).1
                    | true=>have:=I.front k' (by omega) hLk ko ke; omega).1 b bk hin
                  rw[hn] at this; cases this
                · exact h
        · intro b b1 b2 b3
          rcases h3.dom b b3 with r | ⟨r1,r2⟩
          · rcases I.fresh b b1 b2 r with s | ⟨k,k1,k2,k3,k4,k5,k6⟩
            · exact .inl (by omega)
            · rcases Nat.lt_or_gt_of_ne (hpne k k5) with h | h
              · have:=before k h k4 k5; exact .inl (by omega)
              · exact .inr ⟨k,h,k2,.inl k3,k4,k5,k6⟩
          · exact .inl r2
theorem drawAll (hC:zfp P tab M.call) (hM:zkb P tab M.meth) (hQ:∀a' w' β',EnvR tab β' (C.E C.m) a'->Rel tab β' (C.Hh C.m).get w'->TrG β0 β' (C.Hh 0) C.N (C.Hh C.m).get w0 w'->a'.defers=a0.defers->Q .normal a' w') :
  ∀(fuel:Nat) (listed:Array Bool) (a:Act) (w:World),(∃β q g,Inv C β0 w0 a0 listed a w β q g)->left (C.L listed) C.m<=fuel->Go.wpAny P .any ops Q fuel listed a w:=by
 have unlisted:∀ {listed:Array Bool}{i p:Nat},listed.size=ops.size->i∈Go.Region.ready .any ops listed->C.s[p]?=some i->C.L listed p=false:=by
  intro listed i p hs hr hp
  obtain⟨hn,o,ho,_⟩:=Go.mem_ready.mp hr
  have hi:i<listed.size:=by rw[hs]; exact(Array.getElem?_eq_some_iff.mp ho).1
  unfold L; rw[zmm hp]
  simpa [hi] using hn
 have done:∀(listed:Array Bool) (a:Act) (w:World),(∃β q g,Inv C β0 w0 a0 listed a w β q g)->(∀k,k<C.m->C.L listed k=true)->Q .normal a w:=by
  rintro listed a w ⟨β,q,g,I⟩ hall
  have hbt:=z02n (C:=C) I.qm (Nat.le_refl _) fun k k1 k2 ko ke=>by
   have:=I.front k k2 (hall k k2) ko ke; omega
  have hsub:∀b x,(C.Hh C.m).get b=some x->g b=some x:=by
   intro b x h
   rcases hbt.2 b x h with r | ⟨k,k1,k2,k3,k4,rfl,k5⟩
   ·exact I.G1 b x r
   ·exact I.G2 k k1 k2 (hall k k2) k3 k4 x k5
  refine hQ a w β ?_ (I.rel.anti hsub) ⟨I.trg.ext,I.trg.dom,I.trg.os,I.trg.tape,I.trg.output,I.trg.size,I.trg.frame,fun b x l hb hl=>I.trg.img b x l (hsub b x hb) hl⟩ I.defers
  have:=I.env
  rw[z0ew (E:=C.E) rfl (fun k hk=>(C.st hk).env) hall] at this
  exact this
 intro fuel
 induction fuel with
 | zero =>
  intro listed a w hI hf
  have hall:=z0bu (Nat.le_zero.mp hf)
  refine⟨?_,done listed a w hI hall⟩
  obtain⟨β,q,g,I⟩:=hI
  cases hr:Go.Region.ready .any ops listed with
  | nil=>rfl
  | cons i l =>
   have hi:i∈Go.Region.ready .any ops listed:=by rw[hr]; simp
   obtain⟨_,o,ho,_⟩:=Go.mem_ready.mp hi
   obtain⟨p,hp⟩:=C.mem i (Array.getElem?_eq_some_iff.mp ho).1
   have:=unlisted I.size hi hp
   rw[hall p (z076 hp)] at this; cases this
 | succ fuel ih =>
  intro listed a w hI hf
  refine⟨fun hnil=>done listed a w hI ?_,fun i hi => ?_⟩
  ·-- the first that isn't listed could come
   obtain⟨β,q,g,I⟩:=hI
   intro k
   induction k using Nat.strongRecOn with
   | ind k ihk =>
    intro hk
    cases hL:C.L listed k with
    | true=>rfl
    | false =>
     exfalso
     have hs:=at_ hk
     have hlt:C.s.getD k 0<ops.size:=by simpa using C.sig.lt k _ hs
     have:C.s.getD k 0∈Go.Region.ready .any ops listed:=by
      refine Go.mem_ready.mpr ⟨?_,ops[C.s.getD k 0],by simp[hlt],?_⟩
      ·unfold L at hL
       have hz:C.s.getD k 0<listed.size:=by rw[I.size]; exact hlt
       rw[z0mo hz]; exact hL
      ·intro e he hb
       obtain⟨q',hq',hs'⟩:=C.edges k _ ops[C.s.getD k 0] hs (by simp[hlt]) e he hb
       have:=ihk q' hq' (by omega)
       unfold L at this; rw[zmm hs'] at this; exact this
     rw[hnil] at this; cases this
  ·obtain⟨β,q,g,I⟩:=hI
   obtain⟨_,o,ho,_⟩:=Go.mem_ready.mp hi
   obtain⟨p,hp⟩:=C.mem i (Array.getElem?_eq_some_iff.mp ho).1
   have hun:=unlisted I.size hi hp
   have hst:=z0je (z076 hp) hun (z0lk I.size hp)
   exact Go.wpOp_mono (fun a' w' hI'=>ih _ a' w' hI' (by omega)) (draw hC hM I hi)
end Ctx
section
variable {P:Program}{tab:Tab}{M:Env}{Q:Exit->Act->World->Prop}
theorem z0il (hm:P.follows .mixedOrders=true) (hC:zfp P tab M.call) (hM:zkb P tab M.meth) (hN:zzq M.call) (hD:z0cw M.call) {R:Type}{id:Nat}{ops:Array Oper}{d:Bool}{r:AIs}{env:List V}{h:H}{k:List V->H->Option R}{res:R}{N:Nat}{β:Nat->Option Loc}{a:Act}{w:World}
  (hc:z0aa P tab ops d=some r) (he:z1y M r env h k=some res) (hR:Rel tab β h.get w) (hE:EnvR tab β env a) (hF:FreshTo β h.next N)
  (hK:∀env' h' a' w' β',k env' h'=some res->h.next<=h'.next->(h'.next<=N->EnvR tab β' env' a'/\Rel tab β' h'.get w'/\Tr β β' h h' w w'/\a'.defers=a.defers->Q .normal a' w'))
  (hNk:∀env' h',k env' h'=some res->h'.next<=N):(Go.Code.region id ops d).wp P Q a w:=by
 unfold z0aa at hc
 cases d with
 | false =>
  simp only at hc
  obtain⟨ls,env',h',h1,h2,h3⟩:=z0ec hc he
  have hnx:=zvw hN h2
  refine Go.wp_region ?_
  exact z0nd hC hM hN (l:=List.range ops.size) (by simpa using h1) (by simp) h2 (hNk _ _ h3) hR hE hF fun a' w' β' a1 a2 a3 a4=>hK env' h' a' w' β' h3 hnx (hNk _ _ h3) ⟨a1,a2,a3,a4⟩
 | true =>
  simp only at hc
  split at hc
  ·rename_i hcond
   simp only[Bool.and_eq_true,List.all_eq_true,List.contains_iff_mem,List.mem_range] at hcond
   obtain⟨⟨hall,hsig⟩,hedge⟩:=hcond
   obtain⟨ls,env',h',h1,h2,h3⟩:=z0ec hc he
   have hnx:=zvw hN h2
   have hsg:=z06v hsig
   have hlt:∀i∈zvv (Go.Region.before ops).toList ((ops.toList.map (cOpF P tab)).map AOp.cls) ops.toList.length 0 (List.range ops.toList.length),i<ops.toList.length:=by
    intro i hi
    obtain⟨p,hp⟩:=List.mem_iff_getElem?.mp hi
    exact hsg.lt p i hp
   obtain⟨E,Hh,out,on,dst,gd,e0,h0,e1,h1',hstep⟩:=z0cv h1 hlt h2
   have hNN:=hNk _ _ h3
   let C:Ctx P tab M ops:={
    s:=zvv (Go.Region.before ops).toList ((ops.toList.map (cOpF P tab)).map AOp.cls) ops.toList.length 0 (List.range ops.toList.length)
    E:=E,Hh:=Hh,out:=out,on:=on,dst:=dst,gd:=gd,N:=h'.next,sig:=hsg
    mem:=fun i hi=>List.mem_iff_getElem?.mp (hall i (by simpa using hi))
    edges:=fun p i o hp ho e he hb=>by
     rcases z06a hedge p i o hp ho e he hb with q | q
     ·cases q
     ·exact q
    step:=fun p i hp=>by simpa using hstep p i hp
    hN:=hN,hD:=hD
    bound:=by rw[h1']; exact Nat.le_refl _
    fresh0:=fun b b1 b2=>by
     rw[h0] at b1 ⊢
     cases hq:h.get b with
     | none=>rfl
     | some x=>obtain⟨l,hl,_⟩:=hR.blk b x hq; rw[hF b b1 (by omega)] at hl; cases hl }
   have cm:C.m=(zvv (Go.Region.before ops).toList ((ops.toList.map (cOpF P tab)).map AOp.cls) ops.toList.length 0 (List.range ops.toList.length)).length:=rfl
   have cE:C.E C.m=env':=e1
   have cH:C.Hh C.m=h':=h1'
   have cE0:C.E 0=env:=e0
   have cH0:C.Hh 0=h:=h0
   refine Go.wp_region_any hm (Ctx.drawAll (C:=C) (β0:=β) (w0:={ w with drawn:=w.drawn+1 }) (a0:=a) hC hM ?_ _ _ _ _ ⟨β,0,h.get,?_⟩ ?_)
   ·intro a' w' β' a1 a2 a3 a4
    rw[cE] at a1; rw[cH] at a2 a3; rw[cH0] at a3
    exact hK env' h' a' w' β' h3 hnx hNN ⟨a1,a2,⟨a3.ext,a3.dom,hnx,a3.os,a3.tape,a3.output,a3.size,a3.frame,a3.img⟩,a4⟩
   ·have hLf:∀k,C.L (Array.replicate ops.size false) k=false:=by
     intro k; unfold Ctx.L
     simp only[Array.getD_eq_getD_getElem?,Array.getElem?_replicate]
     split <;> rfl
    refine { size:=by simp,closed := ?_,qm:=Nat.zero_le _,rel:=hR.heap rfl,env := ?_,front := ?_,effq := ?_,G1 := ?_,G2 := ?_,G3 := ?_,fresh := ?_,trg := ?_,defers:=rfl }
    ·intro j o hj
     exfalso
     simp only[Array.getD_eq_getD_getElem?,Array.getElem?_replicate] at hj
     split at hj <;> cases hj
    ·have hz:∀k,ebar (C.E 0) C.dst C.out (C.L (Array.replicate ops.size false)) k=C.E 0:=by
      intro k
      induction k with
      | zero=>rfl
      | succ k ih=>simp only[ebar,hLf k,ih]
     rw[hz,cE0]; exact hE
    ·intro p _ hp; rw[hLf p] at hp; cases hp
    ·intro r hr; cases hr
    ·intro b x hb; rw[cH0] at hb; exact hb
    ·intro p _ _ hp; rw[hLf p] at hp; cases hp
    ·intro b x hb; rw[cH0]; exact .inl hb
    ·intro b b1 b2 b3
     rw[cH0] at b1
     exact absurd (hF b b1 (show b<N by have:b<h'.next:=b2; omega)) b3
    ·rw[cH0]
     exact⟨Ext.refl _,fun b hb=>.inl hb,rfl,rfl,rfl,Nat.le_refl _,fun _ _ _=>rfl,fun b x l hb hl=>.inr ⟨b,x,l,hb,hl,rfl,fun y=>y⟩⟩
   ·have:=z0g8 (L:=C.L (Array.replicate ops.size false)) C.m
    have h5:=zsn (bs:=(Go.Region.before ops).toList) (cl:=(ops.toList.map (cOpF P tab)).map AOp.cls) (n:=ops.toList.length) (done:=0) (l:=List.range ops.toList.length)
    rw[<-cm] at h5
    simp at h5
    omega
  ·cases hc
end
end Wm
