/- Code and functions. -/
import Derived.Test.YthkimcdeejjmbaaWmDraw
import Derived.LoopN
import Derived.Scope
set_option linter.all false
namespace Wm
open Go (Value Addr World Obj Program IntKind TypeId Oper Operand Act Exit Sem TypeDesc Code)
def Nd (h h':H):Prop:=h.next<=h'.next/\∀b,h'.next<=b->h.get b=none->h'.get b=none
theorem Nd.refl (h:H):Nd h h:=⟨Nat.le_refl _,fun _ _ h=>h⟩
theorem Nd.trans {a b c:H} (x:Nd a b) (y:Nd b c):Nd a c:=⟨Nat.le_trans x.1 y.1,fun n h g=>y.2 n h (x.2 n (Nat.le_trans y.1 h) g)⟩
def NdOk (call:Nat->List V->H->Option (V × H)):Prop:=∀f args h v h',call f args h=some (v,h')->Nd h h'
theorem NdOk.next {call:Nat->List V->H->Option (V × H)} (h:NdOk call):zzq call:=fun f args h1 v h2 e=>(h f args h1 v h2 e).1
theorem NdOk.dom {call:Nat->List V->H->Option (V × H)} (h:NdOk call):z0cw call:=fun f args h1 v h2 e=>(h f args h1 v h2 e).2
structure LoopOk (M:Env):Prop where
 loop:∀body env h r,M.loop body env h=some r->∃n,z5x body n env h=some r
 scope:∀body l env h r,M.scope body l env h=some r->∃n,z35 body n l env h=some r
section
variable {M:Env}
theorem z0dm (hN:NdOk M.call) {R:Type}{i:AI}{env:List V}{h:H}{k:List V->H->Option R}{r:R} (hh:zmj M i env h k=some r):∃env' h',Nd h h'/\k env' h'=some r:=by
 obtain⟨v,h1,h2,_,h4⟩:=zn3 hh
 exact⟨_,h1,⟨z0av hN.next h2,fun b hb hg=>z0jo hN.dom h2 hb hg⟩,h4⟩
theorem z080 (hN:NdOk M.call) {R:Type}{r:R}:∀ {l:List AI}{env:List V}{h:H}{k:List V->H->Option R},zfy M l env h k=some r->∃env' h',Nd h h'/\k env' h'=some r
 | [],env,h,k,hh=>⟨env,h,Nd.refl h,hh⟩
 | i :: l,env,h,k,hh=>by
  simp only[zfy] at hh
  obtain⟨e1,h1,n1,hh⟩:=z0dm hN hh
  obtain⟨e2,h2,n2,hh⟩:=z080 hN hh
  exact⟨e2,h2,n1.trans n2,hh⟩
theorem znu (hN:NdOk M.call) {R:Type}{r:R}:∀ {l:AIs}{env:List V}{h:H}{k:List V->H->Option R},z1y M l env h k=some r->∃env' h',Nd h h'/\k env' h'=some r
 | .nil,env,h,k,hh=>⟨env,h,Nd.refl h,hh⟩
 | .op i l,env,h,k,hh=>by
  simp only[z1y] at hh
  obtain⟨e1,h1,n1,hh⟩:=z0dm hN hh
  obtain⟨e2,h2,n2,hh⟩:=znu hN hh
  exact⟨e2,h2,n1.trans n2,hh⟩
 | .grd g w b l,env,h,k,hh=>by
  simp only[z1y] at hh
  split at hh
  ·split at hh
   ·obtain⟨e1,h1,n1,hh⟩:=z080 hN hh
    obtain⟨e2,h2,n2,hh⟩:=znu hN hh
    exact⟨e2,h2,n1.trans n2,hh⟩
   ·exact znu hN hh
  ·split at hh
   ·obtain⟨e1,h1,n1,hh⟩:=z080 hN hh
    obtain⟨e2,h2,n2,hh⟩:=znu hN hh
    exact⟨e2,h2,n1.trans n2,hh⟩
   ·exact znu hN hh
  ·exact znu hN hh
  ·cases hh
theorem z081 {body:List V->H->Option (AX × List V × H)} (hb:∀env h x env' h',body env h=some (x,env',h')->Nd h h'):∀ {n:Nat}{env:List V}{h:H}{x:AX}{env':List V}{h':H},z5x body n env h=some (x,env',h')->Nd h h'
 | 0,_,_,_,_,_,hh=>by simp[z5x] at hh
 | n+1,env,h,x,env',h',hh=>by
  simp only[z5x] at hh
  split at hh
  ·rename_i e1 h1 he
   exact(hb _ _ _ _ _ he).trans (z081 hb hh)
  ·exact hb _ _ _ _ _ hh
theorem z06i {body:Nat->List V->H->Option (AX × List V × H)} (hb:∀l env h x env' h',body l env h=some (x,env',h')->Nd h h'):∀ {n l:Nat}{env:List V}{h:H}{x:AX}{env':List V}{h':H},z35 body n l env h=some (x,env',h')->Nd h h'
 | 0,_,_,_,_,_,_,hh=>by simp[z35] at hh
 | n+1,l,env,h,x,env',h',hh=>by
  simp only[z35] at hh
  split at hh
  ·rename_i j e1 h1 he
   exact(hb _ _ _ _ _ _ he).trans (z06i hb hh)
  ·exact hb _ _ _ _ _ _ hh
mutual
theorem ze1 (hN:NdOk M.call) (hL:LoopOk M) {R:Type}{r:R}:∀ {c:ACode}{env:List V}{h:H}{k:AX->List V->H->Option R},z0i M c env h k=some r->∃x env' h',Nd h h'/\k x env' h'=some r
 | .skip,env,h,k,hh=>⟨_,env,h,Nd.refl h,hh⟩
 | .ops l,env,h,k,hh=>by
  simp only[z0i] at hh
  obtain⟨e,h',n,hh⟩:=znu hN hh
  exact⟨_,e,h',n,hh⟩
 | .seq a b,env,h,k,hh=>by
  simp only[z0i] at hh
  obtain⟨x,e1,h1,n1,hh⟩:=ze1 hN hL hh
  cases x with
  | normal =>
   obtain⟨x,e2,h2,n2,hh⟩:=ze1 hN hL (c:=b) hh
   exact⟨x,e2,h2,n1.trans n2,hh⟩
  | exit id=>exact⟨_,e1,h1,n1,hh⟩
  | goto id=>exact⟨_,e1,h1,n1,hh⟩
  | ret=>exact⟨_,e1,h1,n1,hh⟩
 | .cond c a b,env,h,k,hh=>by
  simp only[z0i,Option.bind_eq_some_iff] at hh
  obtain⟨t,_,hh⟩:=hh
  cases t with
  | true=>exact ze1 hN hL (c:=a) hh
  | false=>exact ze1 hN hL (c:=b) hh
 | .block id a,env,h,k,hh=>by
  simp only[z0i] at hh
  obtain⟨x,e1,h1,n1,hh⟩:=ze1 hN hL (c:=a) hh
  cases x with
  | exit j =>
   simp only at hh
   split at hh
   ·exact⟨_,e1,h1,n1,hh⟩
   ·exact⟨_,e1,h1,n1,hh⟩
  | normal=>exact⟨_,e1,h1,n1,hh⟩
  | goto id=>exact⟨_,e1,h1,n1,hh⟩
  | ret=>exact⟨_,e1,h1,n1,hh⟩
 | .join keep out a,env,h,k,hh=>by
  simp only[z0i,Option.bind_eq_some_iff] at hh
  obtain⟨⟨x,e',h'⟩,hl,hh⟩:=hh
  obtain⟨y,e1,h1,n1,hl⟩:=ze1 hN hL (c:=a) hl
  simp only[Option.some.injEq,Prod.mk.injEq] at hl
  obtain⟨_,_,rfl⟩:=hl
  exact⟨x,e',h1,n1,hh⟩
 | .loop keep out a,env,h,k,hh=>by
  simp only[z0i,Option.bind_eq_some_iff] at hh
  obtain⟨⟨x,e',h'⟩,hl,hh⟩:=hh
  obtain⟨n,hl⟩:=hL.loop _ _ _ _ hl
  refine⟨x,e',h',z081 ?_ hl,hh⟩
  intro env h x env' h' hb
  obtain⟨y,e1,h1,n1,hh⟩:=ze1 hN hL (c:=a) hb
  cases y <;> simp only[Option.some.injEq,Prod.mk.injEq] at hh <;> (obtain⟨_,_,rfl⟩:=hh; exact n1)
 | .scope keep out a alts,env,h,k,hh=>by
  simp only[z0i,Option.bind_eq_some_iff] at hh
  obtain⟨⟨x,e',h'⟩,hl,hh⟩:=hh
  obtain⟨n,hl⟩:=hL.scope _ _ _ _ _ hl
  refine⟨x,e',h',z06i ?_ hl,hh⟩
  intro l env h x env' h' hb
  cases l with
  | zero =>
   obtain⟨y,e1,h1,n1,hh⟩:=ze1 hN hL (c:=a) hb
   cases y <;> simp only[Option.some.injEq,Prod.mk.injEq] at hh <;> (obtain⟨_,_,rfl⟩:=hh; exact n1)
  | succ l =>
   obtain⟨y,e1,h1,n1,hh⟩:=z086 hN hL (c:=alts) hb
   cases y <;> simp only[Option.some.injEq,Prod.mk.injEq] at hh <;> (obtain⟨_,_,rfl⟩:=hh; exact n1)
 | .alt _ _ _,_,_,_,hh=>by simp[z0i] at hh
 | .exit id,env,h,k,hh=>⟨_,env,h,Nd.refl h,hh⟩
 | .goto id,env,h,k,hh=>⟨_,env,h,Nd.refl h,hh⟩
 | .ret,env,h,k,hh=>⟨_,env,h,Nd.refl h,hh⟩
theorem z086 (hN:NdOk M.call) (hL:LoopOk M) {R:Type}{r:R}:∀ {c:ACode}{l:Nat}{env:List V}{h:H}{k:AX->List V->H->Option R},z10 M c l env h k=some r->∃x env' h',Nd h h'/\k x env' h'=some r
 | .alt l' a more,l,env,h,k,hh=>by
  simp only[z10] at hh
  split at hh
  ·exact ze1 hN hL (c:=a) hh
  ·exact z086 hN hL (c:=more) hh
 | .skip,_,_,_,_,hh=>by simp[z10] at hh
 | .ops _,_,_,_,_,hh=>by simp[z10] at hh
 | .seq _ _,_,_,_,_,hh=>by simp[z10] at hh
 | .cond _ _ _,_,_,_,_,hh=>by simp[z10] at hh
 | .block _ _,_,_,_,_,hh=>by simp[z10] at hh
 | .join _ _ _,_,_,_,_,hh=>by simp[z10] at hh
 | .loop _ _ _,_,_,_,_,hh=>by simp[z10] at hh
 | .scope _ _ _ _,_,_,_,_,hh=>by simp[z10] at hh
 | .exit _,_,_,_,_,hh=>by simp[z10] at hh
 | .goto _,_,_,_,_,hh=>by simp[z10] at hh
 | .ret,_,_,_,_,hh=>by simp[z10] at hh
end
end
def xe:AX->Exit
 | .normal=>.normal
 | .exit id=>.exit id
 | .goto l=>.goto l
 | .ret=>.ret
theorem zaw {tab:Tab}{β:Nat->Option Loc}{keep:List Nat}:∀ {env:List V}{n:Nat}{l:List Value},RVs tab β env l->RVs tab β (z00 keep n env) l
 | [],_,_,h=>h
 | v :: env,n,_,⟨y,ys,e,hv,h⟩=>by
  subst e
  simp only[z00]
  refine RVs.cons ?_ (zaw h)
  split
  ·exact hv
  ·trivial
def z02c (P:Program) (c:Code) (Q:Exit->Act->World->Prop):Nat->Code->Act->World->Prop
 | 0,_,_,_=>False
 | n+1,e,a,w=>e.wp P (fun x a' w'=>match x with
  | .goto l=>∃rest,Go.findLabel c l=some rest/\z02c P c Q n rest a' w'
  | x=>Q x a' w') a w
theorem z08w {P:Program}{c:Code}{Q:Exit->Act->World->Prop}{a:Act}{w:World} (n:Nat) (h:z02c P c Q n c a w):(Code.scope c).wp P Q a w:=by
 intro b k cs
 have key:∀n e a w,z02c P c Q n e a w->∃x a' w',Q x a' w'/\Go.Arrives P (Go.lone (b.at a (.code e :: .inScope c :: k)) cs w) b k cs x a' w':=by
  intro n
  induction n with
  | zero=>intro e a w h; exact h.elim
  | succ n ih =>
   intro e a w h
   obtain⟨x,a₁,w₁,hq,harr⟩:=h b (.inScope c :: k) cs
   cases x with
   | normal=>exact⟨.normal,a₁,w₁,hq,Go.Steps.trans harr (.one Go.step_inScope)⟩
   | exit id=>exact⟨.exit id,a₁,w₁,hq,fun k' hk=>harr k' (by simp[Go.exitTo,hk])⟩
   | goto l =>
    obtain⟨rest,hf,hr⟩:=hq
    obtain⟨e₂,a₂,w₂,hq₂,harr₂⟩:=ih rest a₁ w₁ hr
    exact⟨e₂,a₂,w₂,hq₂,.of_steps (harr _ (by simp[Go.gotoIn,hf])) harr₂⟩
   | ret=>exact⟨_,a₁,w₁,hq,harr⟩
   | panic ch=>exact⟨_,a₁,w₁,hq,harr⟩
   | outgrown=>exact⟨_,a₁,w₁,hq,harr⟩
 obtain⟨x,a₁,w₁,hq,harr⟩:=key n c a w h
 exact⟨x,a₁,w₁,hq,.of_steps (.one Go.step_scope) harr⟩
theorem z0j2 {c:Code}{l:Nat} (h:(zqj c).contains l=false):Go.findLabel c l=none:=by
 induction c with
 | seq a b iha ihb =>
  simp only[zqj,List.contains_eq_mem,List.mem_append,decide_eq_false_iff_not,not_or] at h
  simp only[Go.findLabel]
  rw[iha (by simpa using h.1),ihb (by simpa using h.2)]
 | label l' =>
  simp only[zqj,List.contains_eq_mem,List.mem_singleton,decide_eq_false_iff_not] at h
  simp only[Go.findLabel]
  rw[if_neg (by simp; exact fun e=>h e.symm)]
 | _=>rfl
section
variable {P:Program}{tab:Tab}{M:Env}
def CodeOk (P:Program) (tab:Tab) (M:Env) (c:Code) (A:ACode):Prop :=
 ∀(R:Type) (k:AX->List V->H->Option R) (res:R) (N:Nat) (env:List V) (h:H) (β:Nat->Option Loc) (a:Act) (w:World) (Q:Exit->Act->World->Prop),
  z0i M A env h k=some res->Rel tab β h.get w->EnvR tab β env a->FreshTo β h.next N->(∀x env' h',k x env' h'=some res->h'.next<=N) ->
  (∀x env' h' a' w' β',k x env' h'=some res->EnvR tab β' env' a'->Rel tab β' h'.get w'->Tr β β' h h' w w'->a'.defers=a.defers->Q (xe x) a' w')->c.wp P Q a w
theorem CodeOk.seq {c1 c2:Code}{A1 A2:ACode} (hN:NdOk M.call) (hL:LoopOk M) (h1:CodeOk P tab M c1 A1) (h2:CodeOk P tab M c2 A2):CodeOk P tab M (.seq c1 c2) (.seq A1 A2):=by
 intro R k res N env h β a w Q he hR hE hF hk hQ
 simp only[z0i] at he
 refine Go.wp_seq (h1 _ _ res N env h β a w _ he hR hE hF ?_ ?_)
 ·intro x env' h' hx
  cases x with
  | normal =>
   obtain⟨x,e2,h2',n2,hx⟩:=ze1 hN hL (c:=A2) hx
   exact Nat.le_trans n2.1 (hk _ _ _ hx)
  | exit id=>exact hk _ _ _ hx
  | goto id=>exact hk _ _ _ hx
  | ret=>exact hk _ _ _ hx
 ·intro x env' h' a' w' β' hx hE' hR' ht' hd'
  cases x with
  | normal =>
   refine h2 _ k res N env' h' β' a' w' Q hx hR' hE' (hF.step ht') hk fun x env'' h'' a'' w'' β'' hx hE'' hR'' ht'' hd'' => ?_
   exact hQ x env'' h'' a'' w'' β'' hx hE'' hR'' (ht'.trans ht'') (hd''.trans hd')
  | exit id=>exact hQ _ _ _ _ _ _ hx hE' hR' ht' hd'
  | goto id=>exact hQ _ _ _ _ _ _ hx hE' hR' ht' hd'
  | ret=>exact hQ _ _ _ _ _ _ hx hE' hR' ht' hd'
theorem CodeOk.join {c:Code}{A:ACode} (keep out:List Nat) (h1:CodeOk P tab M c A):CodeOk P tab M c (.join keep out A):=by
 intro R k res N env h β a w Q he hR hE hF hk hQ
 simp only[z0i,Option.bind_eq_some_iff] at he
 obtain⟨⟨x,e',h'⟩,hl,hh⟩:=he
 refine h1 _ _ (x,e',h') N (z00 keep 0 env) h β a w Q hl hR (zaw hE) hF ?_ ?_
 ·intro z env' h2 hz
  simp only[Option.some.injEq,Prod.mk.injEq] at hz
  obtain⟨_,_,rfl⟩:=hz
  exact hk _ _ _ hh
 ·intro z env' h2 a' w' β' hz hE' hR' ht' hd'
  simp only[Option.some.injEq,Prod.mk.injEq] at hz
  obtain⟨rfl,rfl,rfl⟩:=hz
  exact hQ _ _ _ _ _ _ hh (zaw hE') hR' ht' hd'
theorem CodeOk.joinO {c:Code}{A:ACode} (j:Option (List Nat × List Nat)) (h1:CodeOk P tab M c A):CodeOk P tab M c (joinO j A):=by
 cases j with
 | none=>exact h1
 | some ko=>exact h1.join ko.1 ko.2
theorem z0m9 (hm:P.follows .mixedOrders=true) (hC:zfp P tab M.call) (hM:zkb P tab M.meth) (hN:NdOk M.call) (hL:LoopOk M) :
  ∀(c:Code),(∀ {hs:zcd}{p:ACode × zcd},cC P tab c hs=some p->CodeOk P tab M c p.1) /\
   (∀ {l:Nat}{hs:zcd}{p:ACode × zcd},cR P tab c l hs=some p->∃rest,Go.findLabel c l=some rest/\CodeOk P tab M rest p.1):=by
 intro c
 induction c with
 | skip =>
  refine⟨fun {hs p} hc => ?_,fun hc=>by simp[cR] at hc⟩
  simp[cC] at hc; subst hc
  intro R k res N env h β a w Q he hR hE hF hk hQ
  exact Go.wp_skip (hQ .normal env h a w β he hE hR (Tr.refl h w) rfl)
 | region id ops d =>
  refine⟨fun {hs p} hc => ?_,fun hc=>by simp[cR] at hc⟩
  simp only[cC,Option.map_eq_some_iff] at hc
  obtain⟨l,hl,rfl⟩:=hc
  intro R k res N env h β a w Q he hR hE hF hk hQ
  simp only[z0i] at he
  exact z0il hm hC hM hN.next hN.dom hl he hR hE hF (fun env' h' a' w' β' hx _ _ ⟨h1,h2,h3,h4⟩=>hQ .normal env' h' a' w' β' hx h1 h2 h3 h4) fun env' h' hx=>hk _ _ _ hx
 | seq c1 c2 ih1 ih2 =>
  refine⟨fun {hs p} hc => ?_,fun {l hs p} hc => ?_⟩
  ·simp only[cC,Option.bind_eq_some_iff,Option.map_eq_some_iff] at hc
   obtain⟨p1,h1,p2,h2,rfl⟩:=hc
   exact((ih1.1 h1).joinO _).seq hN hL (ih2.1 h2)
  ·simp only[cR] at hc
   split at hc
   ·simp only[Option.bind_eq_some_iff,Option.map_eq_some_iff] at hc
    obtain⟨p1,h1,p2,h2,rfl⟩:=hc
    obtain⟨rest,hf,hr⟩:=ih1.2 h1
    exact⟨.seq rest c2,by simp only[Go.findLabel,hf],hr.seq hN hL (ih2.1 h2)⟩
   ·rename_i hl
    obtain⟨rest,hf,hr⟩:=ih2.2 hc
    exact⟨rest,by simp only[Go.findLabel,z0j2 hl,hf],hr⟩
 | cond c c1 c2 ih1 ih2 =>
  refine⟨fun {hs p} hc => ?_,fun hc=>by simp[cR] at hc⟩
  simp only[cC,Option.bind_eq_some_iff,Option.map_eq_some_iff] at hc
  obtain⟨x,hx,p1,h1,p2,h2,rfl⟩:=hc
  intro R k res N env h β a w Q he hR hE hF hk hQ
  simp only[z0i,Option.bind_eq_some_iff] at he
  obtain⟨t,ht,he⟩:=he
  have hcv:a.eval c=.bool t:=by
   have:=zu hE hx
   unfold asB at ht
   split at ht
   ·rename_i b hb; cases ht; rw[hb] at this; exact this
   ·cases ht
  cases t with
  | true=>exact Go.wp_cond_true hcv (ih1.1 h1 _ k res N env h β a w Q he hR hE hF hk hQ)
  | false=>exact Go.wp_cond_false hcv (ih2.1 h2 _ k res N env h β a w Q he hR hE hF hk hQ)
 | block id c ih =>
  refine⟨fun {hs p} hc => ?_,fun hc=>by simp[cR] at hc⟩
  simp only[cC,Option.map_eq_some_iff] at hc
  obtain⟨p1,h1,rfl⟩:=hc
  intro R k res N env h β a w Q he hR hE hF hk hQ
  simp only[z0i] at he
  refine Go.wp_block (ih.1 h1 _ _ res N env h β a w _ he hR hE hF ?_ ?_)
  ·intro x env' h' hx
   cases x with
   | exit j =>
    simp only at hx
    split at hx
    ·exact hk _ _ _ hx
    ·exact hk _ _ _ hx
   | normal=>exact hk _ _ _ hx
   | goto id=>exact hk _ _ _ hx
   | ret=>exact hk _ _ _ hx
  ·intro x env' h' a' w' β' hx hE' hR' ht' hd'
   cases x with
   | exit j =>
    simp only at hx
    show(if j=id then Q .normal a' w' else Q (.exit j) a' w')
    split at hx
    ·rename_i hj; rw[if_pos (Nat.eq_of_beq_eq_true hj)]; exact hQ _ _ _ _ _ _ hx hE' hR' ht' hd'
    ·rename_i hj; rw[if_neg (Nat.ne_of_beq_eq_false hj)]; exact hQ _ _ _ _ _ _ hx hE' hR' ht' hd'
   | normal=>exact hQ _ _ _ _ _ _ hx hE' hR' ht' hd'
   | goto id=>exact hQ _ _ _ _ _ _ hx hE' hR' ht' hd'
   | ret=>exact hQ _ _ _ _ _ _ hx hE' hR' ht' hd'
 | loop c ih =>
  refine⟨fun {hs p} hc => ?_,fun hc=>by simp[cR] at hc⟩
  cases hs with
  | nil=>simp[cC] at hc
  | cons ko hs =>
   obtain⟨keep,out⟩:=ko
   simp only[cC,Option.map_eq_some_iff] at hc
   obtain⟨p1,h1,rfl⟩:=hc
   intro R k res N env h β a w Q he hR hE hF hk hQ
   simp only[z0i,Option.bind_eq_some_iff] at he
   obtain⟨⟨x,e',h'⟩,hl,hh⟩:=he
   replace hl:=hL.loop _ _ _ _ hl
   obtain⟨n,hl⟩:=hl
   refine Go.wp_loop_rounds n ?_
   have hn':=hk _ _ _ hh
   have hQ':∀a' w' β',EnvR tab β' e' a'->Rel tab β' h'.get w'->Tr β β' h h' w w'->a'.defers=a.defers->Q (xe x) a' w':=fun a' w' β' h1 h2 h3 h4=>hQ x e' h' a' w' β' hh h1 h2 h3 h4
   clear hQ hh
   have hE0:EnvR tab β (z00 keep 0 env) a:=zaw hE
   clear hE
   generalize z00 keep 0 env=env0 at hl hE0
   clear env
   induction n generalizing env0 h β a w with
   | zero=>simp[z5x] at hl
   | succ n ihn =>
    simp only[z5x] at hl
    rw[Go.rounds_succ]
    generalize hbody:z0i M p1.1 env0 h (fun x env h=>match x with
     | .normal=>some (AX.normal,z00 keep 0 env,h)
     | x=>some (x,z00 out 0 env,h))=rb at hl
    cases rb with
    | none=>simp at hl
    | some r =>
     obtain⟨y,e1,h1'⟩:=r
     have hle:h1'.next<=N:=by
      cases y with
      | normal =>
       have hb:∀env h x env' h',z0i M p1.1 env h (fun x env h=>match x with
         | .normal=>some (AX.normal,z00 keep 0 env,h)
         | x=>some (x,z00 out 0 env,h))=some (x,env',h')->Nd h h':=by
        intro env h x env' h' hb
        obtain⟨y,e1,h1,n1,hh⟩:=ze1 hN hL (c:=p1.1) hb
        cases y <;> simp only[Option.some.injEq,Prod.mk.injEq] at hh <;> (obtain⟨_,_,rfl⟩:=hh; exact n1)
       exact Nat.le_trans (z081 hb hl).1 hn'
      | exit id=>simp only[Option.some.injEq,Prod.mk.injEq] at hl; rw[hl.2.2]; exact hn'
      | goto id=>simp only[Option.some.injEq,Prod.mk.injEq] at hl; rw[hl.2.2]; exact hn'
      | ret=>simp only[Option.some.injEq,Prod.mk.injEq] at hl; rw[hl.2.2]; exact hn'
     refine ih.1 h1 _ _ (y,e1,h1') N env0 h β a w _ hbody hR hE0 hF ?_ ?_
     ·intro z env' h2 hz
      cases z <;> simp only[Option.some.injEq,Prod.mk.injEq] at hz <;> (obtain⟨_,_,rfl⟩:=hz; exact hle)
     ·intro z env' h2 a' w' β' hz hE' hR' ht' hd'
      cases z with
      | normal =>
       simp only[Option.some.injEq,Prod.mk.injEq] at hz
       obtain⟨rfl,rfl,rfl⟩:=hz
       exact ihn h2 β' a' w' hR' (hF.step ht') (fun a'' w'' β'' g1 g2 g3 g4=>hQ' a'' w'' β'' g1 g2 (ht'.trans g3) (g4.trans hd')) _ hl (zaw hE')
      | exit id =>
       simp only[Option.some.injEq,Prod.mk.injEq] at hz
       obtain⟨rfl,rfl,rfl⟩:=hz
       simp only[Option.some.injEq,Prod.mk.injEq] at hl
       obtain⟨rfl,rfl,rfl⟩:=hl
       exact hQ' a' w' β' (zaw hE') hR' ht' hd'
      | goto id =>
       simp only[Option.some.injEq,Prod.mk.injEq] at hz
       obtain⟨rfl,rfl,rfl⟩:=hz
       simp only[Option.some.injEq,Prod.mk.injEq] at hl
       obtain⟨rfl,rfl,rfl⟩:=hl
       exact hQ' a' w' β' (zaw hE') hR' ht' hd'
      | ret =>
       simp only[Option.some.injEq,Prod.mk.injEq] at hz
       obtain⟨rfl,rfl,rfl⟩:=hz
       simp only[Option.some.injEq,Prod.mk.injEq] at hl
       obtain⟨rfl,rfl,rfl⟩:=hl
       exact hQ' a' w' β' (zaw hE') hR' ht' hd'
 | scope c ih =>
  refine⟨fun {hs p} hc => ?_,fun hc=>by simp[cR] at hc⟩
  cases hs with
  | nil=>simp[cC] at hc
  | cons ko hs =>
   obtain⟨keep,out⟩:=ko
   simp only[cC,Option.bind_eq_some_iff,Option.map_eq_some_iff] at hc
   obtain⟨p1,h1,p2,hp2,rfl⟩:=hc
   have hA:=ih.1 h1
   -- each label's rest
   have halt:∀ {ls:List Nat}{hs:zcd}{p2:ACode × zcd},z06o (fun l hs=>cR P tab c l hs) ls hs=some p2->∀ {R:Type}{k:AX->List V->H->Option R}{res:R}{l:Nat}{env:List V}{h:H},
     z10 M p2.1 l env h k=some res->∃rest A,Go.findLabel c l=some rest/\CodeOk P tab M rest A/\z0i M A env h k=some res:=by
    intro ls
    induction ls with
    | nil=>intro hs p2 hp R k res l env h he; simp[z06o] at hp; subst hp; simp[z10] at he
    | cons l0 ls ihl =>
     intro hs p2 hp R k res l env h he
     simp only[z06o,Option.bind_eq_some_iff,Option.map_eq_some_iff] at hp
     obtain⟨q1,g1,q2,g2,rfl⟩:=hp
     simp only[z10] at he
     split at he
     ·rename_i hl
      have:=Nat.eq_of_beq_eq_true hl
      subst this
      obtain⟨rest,hf,hr⟩:=ih.2 g1
      exact⟨rest,q1.1,hf,hr,he⟩
     ·exact ihl g2 he
   intro R k res N env h β a w Q he hR hE hF hk hQ
   simp only[z0i,Option.bind_eq_some_iff] at he
   obtain⟨⟨x,e',h'⟩,hl,hh⟩:=he
   obtain⟨n,hl⟩:=hL.scope _ _ _ _ _ hl
   refine z08w n ?_
   have hn':=hk _ _ _ hh
   have hQ':∀a' w' β',EnvR tab β' e' a'->Rel tab β' h'.get w'->Tr β β' h h' w w'->a'.defers=a.defers->Q (xe x) a' w':=fun a' w' β' h1 h2 h3 h4=>hQ x e' h' a' w' β' hh h1 h2 h3 h4
   clear hQ hh
   -- which code it is at
   have hb0:∀l env h (x:AX) env' h',(match (generalizing:=false) l with
     | 0=>z0i M p1.1 env h fun x env h=>match x with
      | .goto j=>some (AX.goto j,z00 keep 0 env,h)
      | x=>some (x,z00 out 0 env,h)
     | l+1=>z10 M p2.1 l env h fun x env h=>match x with
      | .goto j=>some (AX.goto j,z00 keep 0 env,h)
      | x=>some (x,z00 out 0 env,h))=some (x,env',h')->Nd h h':=by
    intro l env h x env' h' hb
    cases l with
    | zero =>
     obtain⟨y,e1,h1,n1,hh⟩:=ze1 hN hL (c:=p1.1) hb
     cases y <;> simp only[Option.some.injEq,Prod.mk.injEq] at hh <;> (obtain⟨_,_,rfl⟩:=hh; exact n1)
    | succ l =>
     obtain⟨y,e1,h1,n1,hh⟩:=z086 hN hL (c:=p2.1) hb
     cases y <;> simp only[Option.some.injEq,Prod.mk.injEq] at hh <;> (obtain⟨_,_,rfl⟩:=hh; exact n1)
   have main:∀(n l:Nat) (e:Code) (env:List V) (h:H) (β:Nat->Option Loc) (a:Act) (w:World),
     (∀ {r:AX × List V × H},(match (generalizing:=false) l with
      | 0=>z0i M p1.1 env h fun x env h=>match x with
       | .goto j=>some (AX.goto j,z00 keep 0 env,h)
       | x=>some (x,z00 out 0 env,h)
      | l+1=>z10 M p2.1 l env h fun x env h=>match x with
       | .goto j=>some (AX.goto j,z00 keep 0 env,h)
       | x=>some (x,z00 out 0 env,h))=some r->∃A,CodeOk P tab M e A/\z0i M A env h (fun x env h=>match x with
       | .goto j=>some (AX.goto j,z00 keep 0 env,h)
       | x=>some (x,z00 out 0 env,h))=some r) ->
     z35 (fun l env h=>match l with
      | 0=>z0i M p1.1 env h fun x env h=>match x with
       | .goto j=>some (AX.goto j,z00 keep 0 env,h)
       | x=>some (x,z00 out 0 env,h)
      | l+1=>z10 M p2.1 l env h fun x env h=>match x with
       | .goto j=>some (AX.goto j,z00 keep 0 env,h)
       | x=>some (x,z00 out 0 env,h)) n l env h=some (x,e',h') ->
     Rel tab β h.get w->EnvR tab β env a->FreshTo β h.next N ->
     (∀a' w' β',EnvR tab β' e' a'->Rel tab β' h'.get w'->Tr β β' h h' w w'->a'.defers=a.defers->Q (xe x) a' w')->z02c P c Q n e a w:=by
    intro n
    induction n with
    | zero=>intro l e env h β a w _ hl; simp[z35] at hl
    | succ n ihn =>
     intro l e env h β a w hbody hl hR hE hF hQ'
     simp only[z35] at hl
     unfold z02c
     generalize hrb:(match (generalizing:=false) l with
      | 0=>z0i M p1.1 env h fun x env h=>match x with
       | .goto j=>some (AX.goto j,z00 keep 0 env,h)
       | x=>some (x,z00 out 0 env,h)
      | l+1=>z10 M p2.1 l env h fun x env h=>match x with
       | .goto j=>some (AX.goto j,z00 keep 0 env,h)
       | x=>some (x,z00 out 0 env,h))=rb at hl
     cases rb with
     | none=>simp at hl
     | some r =>
      obtain⟨A,hA1,hA2⟩:=hbody hrb
      obtain⟨y,e1,h1'⟩:=r
      have hle:h1'.next<=N:=by
       cases y with
       | goto j =>
        simp only at hl
        exact Nat.le_trans (z06i hb0 hl).1 hn'
       | normal=>simp only[Option.some.injEq,Prod.mk.injEq] at hl; rw[hl.2.2]; exact hn'
       | exit id=>simp only[Option.some.injEq,Prod.mk.injEq] at hl; rw[hl.2.2]; exact hn'
       | ret=>simp only[Option.some.injEq,Prod.mk.injEq] at hl; rw[hl.2.2]; exact hn'
      refine hA1 _ _ (y,e1,h1') N env h β a w _ hA2 hR hE hF ?_ ?_
      ·intro z env' h2 hz
       cases z <;> simp only[Option.some.injEq,Prod.mk.injEq] at hz <;> (obtain⟨_,_,rfl⟩:=hz; exact hle)
      ·intro z env' h2 a' w' β' hz hE' hR' ht' hd'
       cases z with
       | goto j =>
        simp only[Option.some.injEq,Prod.mk.injEq] at hz
        obtain⟨rfl,rfl,rfl⟩:=hz
        simp only at hl
        cases n with
        | zero=>simp[z35] at hl
        | succ n' =>
         -- the label is known,or the next pass fails
         have hl2:=hl
         simp only[z35] at hl2
         generalize hra:z10 M p2.1 j (z00 keep 0 env') h2 (fun x env h=>match x with
          | .goto j=>some (AX.goto j,z00 keep 0 env,h)
          | x=>some (x,z00 out 0 env,h))=ra at hl2
         cases ra with
         | none=>simp at hl2
         | some r2 =>
          obtain⟨rest,A',hf,hok,_⟩:=halt hp2 hra
          refine⟨rest,hf,ihn (j+1) rest _ _ β' a' w' (fun {r} hr => ?_) hl hR' (zaw hE') (hF.step ht') fun a'' w'' β'' g1 g2 g3 g4=>hQ' a'' w'' β'' g1 g2 (ht'.trans g3) (g4.trans hd')⟩
          obtain⟨rest2,A2,hf2,hok2,he2⟩:=halt hp2 hr
          rw[hf] at hf2; cases hf2
          exact⟨A2,hok2,he2⟩
       | normal =>
        simp only[Option.some.injEq,Prod.mk.injEq] at hz
        obtain⟨rfl,rfl,rfl⟩:=hz
        simp only[Option.some.injEq,Prod.mk.injEq] at hl
        obtain⟨rfl,rfl,rfl⟩:=hl
        exact hQ' a' w' β' (zaw hE') hR' ht' hd'
       | exit id =>
        simp only[Option.some.injEq,Prod.mk.injEq] at hz
        obtain⟨rfl,rfl,rfl⟩:=hz
        simp only[Option.some.injEq,Prod.mk.injEq] at hl
        obtain⟨rfl,rfl,rfl⟩:=hl
        exact hQ' a' w' β' (zaw hE') hR' ht' hd'
       | ret =>
        simp only[Option.some.injEq,Prod.mk.injEq] at hz
        obtain⟨rfl,rfl,rfl⟩:=hz
        simp only[Option.some.injEq,Prod.mk.injEq] at hl
        obtain⟨rfl,rfl,rfl⟩:=hl
        exact hQ' a' w' β' (zaw hE') hR' ht' hd'
   exact main n 0 c env h β a w (fun {r} hr=>⟨p1.1,hA,hr⟩) hl hR hE hF hQ'
 | label l' =>
  refine⟨fun {hs p} hc => ?_,fun {l hs p} hc => ?_⟩
  ·simp[cC] at hc; subst hc
   intro R k res N env h β a w Q he hR hE hF hk hQ
   exact Go.wp_label (hQ .normal env h a w β he hE hR (Tr.refl h w) rfl)
  ·simp only[cR] at hc
   split at hc
   ·rename_i hl
    have:=Nat.eq_of_beq_eq_true hl
    subst this
    cases hc
    refine⟨.skip,by simp[Go.findLabel],?_⟩
    intro R k res N env h β a w Q he hR hE hF hk hQ
    exact Go.wp_skip (hQ .normal env h a w β he hE hR (Tr.refl h w) rfl)
   ·cases hc
 | exit id =>
  refine⟨fun {hs p} hc => ?_,fun hc=>by simp[cR] at hc⟩
  simp[cC] at hc; subst hc
  intro R k res N env h β a w Q he hR hE hF hk hQ
  exact Go.wp_exit (hQ (.exit id) env h a w β he hE hR (Tr.refl h w) rfl)
 | goto l =>
  refine⟨fun {hs p} hc => ?_,fun hc=>by simp[cR] at hc⟩
  simp[cC] at hc; subst hc
  intro R k res N env h β a w Q he hR hE hF hk hQ
  exact Go.wp_goto (hQ (.goto l) env h a w β he hE hR (Tr.refl h w) rfl)
 | ret =>
  refine⟨fun {hs p} hc => ?_,fun hc=>by simp[cR] at hc⟩
  simp[cC] at hc; subst hc
  intro R k res N env h β a w Q he hR hE hF hk hQ
  exact Go.wp_ret (hQ .ret env h a w β he hE hR (Tr.refl h w) rfl)
 | refuse why =>
  refine⟨fun {hs p} hc => ?_,fun hc=>by simp[cR] at hc⟩
  simp[cC] at hc; subst hc
  intro R k res N env h β a w Q he hR hE hF hk hQ
  simp[z0i,opd,asB,V.undef] at he
 | rangeFunc f ps as b _ _=>exact⟨fun {hs p} hc=>by simp[cC] at hc,fun hc=>by simp[cR] at hc⟩
end
end Wm
