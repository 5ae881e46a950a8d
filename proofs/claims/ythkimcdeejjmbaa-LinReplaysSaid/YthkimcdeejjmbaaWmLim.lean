/- Without bounds: what calls come to, as equations. -/
import Derived.Test.YthkimcdeejjmbaaWmFn
set_option linter.all false
namespace Wm
open Go (Value Addr World Obj Program IntKind TypeId Oper Operand Act Exit Sem TypeDesc Code Func)
def LeO {α:Type} (x y:Option α):Prop:=∀r,x=some r->y=some r
theorem LeO.refl {α:Type} (x:Option α):LeO x x:=fun _ h=>h
theorem LeO.bind {α β:Type}{x y:Option α}{f g:α->Option β} (h:LeO x y) (k:∀a,LeO (f a) (g a)):LeO (x.bind f) (y.bind g):=fun r e=>by
 simp only[Option.bind_eq_some_iff] at e ⊢
 obtain⟨a,h1,h2⟩:=e
 exact⟨a,h a h1,k a r h2⟩
structure LeM (M M':Env):Prop where
 call:∀f args h,LeO (M.call f args h) (M'.call f args h)
 loop:∀b b' env h,(∀e h,LeO (b e h) (b' e h))->LeO (M.loop b env h) (M'.loop b' env h)
 scope:∀b b' l env h,(∀l e h,LeO (b l e h) (b' l e h))->LeO (M.scope b l env h) (M'.scope b' l env h)
 meth:M.meth=M'.meth
section
variable {M M':Env} (hM:LeM M M')
include hM
theorem z0lo (op:AOp) (env:List V) (h:H):LeO (sd M op env h) (sd M' op env h):=by
 cases op
 case call f as =>
  simp only[sd,step]
  exact LeO.bind (hM.call _ _ _) fun _=>LeO.refl _
 case callv f as =>
  simp only[sd,step]
  split
  ·exact LeO.bind (hM.call _ _ _) fun _=>LeO.refl _
  ·exact LeO.refl _
 case invoke m r as =>
  simp only[sd,step,hM.meth]
  split
  ·exact LeO.bind (LeO.refl _) fun _=>LeO.bind (hM.call _ _ _) fun _=>LeO.refl _
  ·exact LeO.refl _
 all_goals exact LeO.refl _
theorem z0gc {R:Type}{env:List V}{h:H}{k k':Option R} (hk:LeO k k'):∀(l:List Chk),LeO (chks env h k l) (chks env h k' l)
 | []=>hk
 | c :: l=>by
  simp only[chks]
  split
  ·exact z0gc hk l
  ·exact LeO.refl _
theorem z0df {R:Type} (i:AI) (env:List V) (h:H) {k k':List V->H->Option R} (hk:∀e h,LeO (k e h) (k' e h)):LeO (zmj M i env h k) (zmj M' i env h k'):=by
 unfold zmj
 rw[z07f,z07f]
 exact LeO.bind (z0lo hM _ _ _) fun p=>z0gc hM (hk _ _) _
theorem z03d {R:Type}:∀(l:List AI) (env:List V) (h:H) {k k':List V->H->Option R},(∀e h,LeO (k e h) (k' e h))->LeO (zfy M l env h k) (zfy M' l env h k')
 | [],env,h,k,k',hk=>hk env h
 | i :: l,env,h,k,k',hk=>by
  simp only[zfy]
  exact z0df hM i env h fun e h=>z03d l e h hk
theorem ziw {R:Type}:∀(l:AIs) (env:List V) (h:H) {k k':List V->H->Option R},(∀e h,LeO (k e h) (k' e h))->LeO (z1y M l env h k) (z1y M' l env h k')
 | .nil,env,h,k,k',hk=>hk env h
 | .op i l,env,h,k,k',hk=>by
  simp only[z1y]
  exact z0df hM i env h fun e h=>ziw l e h hk
 | .grd g w b l,env,h,k,k',hk=>by
  simp only[z1y]
  split
  ·split
   ·exact z03d hM b _ h fun e h=>ziw l e h hk
   ·exact ziw l _ h hk
  ·split
   ·exact z03d hM b _ h fun e h=>ziw l e h hk
   ·exact ziw l _ h hk
  ·exact ziw l _ h hk
  ·exact LeO.refl _
mutual
theorem zb9 {R:Type}:∀(c:ACode) (env:List V) (h:H) {k k':AX->List V->H->Option R},(∀x e h,LeO (k x e h) (k' x e h))->LeO (z0i M c env h k) (z0i M' c env h k')
 | .skip,env,h,k,k',hk=>hk _ env h
 | .ops l,env,h,k,k',hk=>by
  simp only[z0i]
  exact ziw hM l env h fun e h=>hk _ e h
 | .seq a b,env,h,k,k',hk=>by
  simp only[z0i]
  refine zb9 a env h fun x e h => ?_
  cases x with
  | normal=>exact zb9 b e h hk
  | exit id=>exact hk _ e h
  | goto l=>exact hk _ e h
  | ret=>exact hk _ e h
 | .cond c a b,env,h,k,k',hk=>by
  simp only[z0i]
  refine LeO.bind (LeO.refl _) fun t => ?_
  cases t with
  | true=>exact zb9 a env h hk
  | false=>exact zb9 b env h hk
 | .block id a,env,h,k,k',hk=>by
  simp only[z0i]
  refine zb9 a env h fun x e h => ?_
  cases x with
  | exit j=>simp only; split <;> exact hk _ e h
  | normal=>exact hk _ e h
  | goto l=>exact hk _ e h
  | ret=>exact hk _ e h
 | .join keep out a,env,h,k,k',hk=>by
  simp only[z0i]
  exact LeO.bind (zb9 a _ h fun x e h=>LeO.refl _) fun p=>hk _ _ _
 | .loop keep out a,env,h,k,k',hk=>by
  simp only[z0i]
  exact LeO.bind (hM.loop _ _ _ _ fun e h=>zb9 a e h fun x e h=>LeO.refl _) fun p=>hk _ _ _
 | .scope keep out a alts,env,h,k,k',hk=>by
  simp only[z0i]
  refine LeO.bind (hM.scope _ _ _ _ _ fun l e h => ?_) fun p=>hk _ _ _
  cases l with
  | zero=>exact zb9 a e h fun x e h=>LeO.refl _
  | succ l=>exact z08j alts l e h fun x e h=>LeO.refl _
 | .alt _ _ _,_,_,_,_,_=>LeO.refl _
 | .exit id,env,h,k,k',hk=>hk _ env h
 | .goto id,env,h,k,k',hk=>hk _ env h
 | .ret,env,h,k,k',hk=>hk _ env h
theorem z08j {R:Type}:∀(c:ACode) (l:Nat) (env:List V) (h:H) {k k':AX->List V->H->Option R},(∀x e h,LeO (k x e h) (k' x e h))->LeO (z10 M c l env h k) (z10 M' c l env h k')
 | .alt l' a more,l,env,h,k,k',hk=>by
  simp only[z10]
  split
  ·exact zb9 a env h hk
  ·exact z08j more l env h hk
 | .skip,_,_,_,_,_,_=>LeO.refl _
 | .ops _,_,_,_,_,_,_=>LeO.refl _
 | .seq _ _,_,_,_,_,_,_=>LeO.refl _
 | .cond _ _ _,_,_,_,_,_,_=>LeO.refl _
 | .block _ _,_,_,_,_,_,_=>LeO.refl _
 | .join _ _ _,_,_,_,_,_,_=>LeO.refl _
 | .loop _ _ _,_,_,_,_,_,_=>LeO.refl _
 | .scope _ _ _ _,_,_,_,_,_,_=>LeO.refl _
 | .exit _,_,_,_,_,_,_=>LeO.refl _
 | .goto _,_,_,_,_,_,_=>LeO.refl _
 | .ret,_,_,_,_,_,_=>LeO.refl _
end
theorem z0eq (f:AFunc) (args:List V) (h:H):LeO (z06 M f args h) (z06 M' f args h):=by
 unfold z06
 split
 ·exact zb9 hM _ _ _ fun x e h=>LeO.refl _
 ·exact LeO.refl _
theorem z0ea (f:AFunc) (args:List V) (h:H):LeO (zeq M f args h) (zeq M' f args h):=by
 unfold zeq
 split
 ·exact z0eq hM f args h
 ·split
  ·exact LeO.bind (z0eq hM f args _) fun p=>LeO.refl _
  ·exact LeO.refl _
end
theorem z003 {b b':List V->H->Option (AX × List V × H)} (hb:∀e h,LeO (b e h) (b' e h)):∀ {n m:Nat},n<=m->∀(e:List V) (h:H),LeO (z5x b n e h) (z5x b' m e h)
 | 0,_,_,e,h=>fun r hr=>by simp[z5x] at hr
 | n+1,m,hnm,e,h=>by
  obtain⟨m,rfl⟩:∃k,m=k+1:=⟨m-1,by omega⟩
  intro r hr
  simp only[z5x] at hr ⊢
  cases hbe:b e h with
  | none=>rw[hbe] at hr; cases hr
  | some q =>
   rw[hbe] at hr
   rw[hb e h q hbe]
   obtain⟨x,e1,h1⟩:=q
   cases x with
   | normal=>exact z003 hb (by omega) e1 h1 r hr
   | exit id=>exact hr
   | goto id=>exact hr
   | ret=>exact hr
theorem zwq {b b':Nat->List V->H->Option (AX × List V × H)} (hb:∀l e h,LeO (b l e h) (b' l e h)):∀ {n m:Nat},n<=m->∀(l:Nat) (e:List V) (h:H),LeO (z35 b n l e h) (z35 b' m l e h)
 | 0,_,_,l,e,h=>fun r hr=>by simp[z35] at hr
 | n+1,m,hnm,l,e,h=>by
  obtain⟨m,rfl⟩:∃k,m=k+1:=⟨m-1,by omega⟩
  intro r hr
  simp only[z35] at hr ⊢
  cases hbe:b l e h with
  | none=>rw[hbe] at hr; cases hr
  | some q =>
   rw[hbe] at hr
   rw[hb l e h q hbe]
   obtain⟨x,e1,h1⟩:=q
   cases x with
   | goto j=>exact zwq hb (by omega) (j+1) e1 h1 r hr
   | exit id=>exact hr
   | normal=>exact hr
   | ret=>exact hr
open Classical in
noncomputable def lim {α:Type} (s:Nat->Option α):Option α:=if h:∃n,(s n).isSome=true then s h.choose else none
theorem z0e6 {α:Type}{s:Nat->Option α} (hs:∀n m,n<=m->LeO (s n) (s m)) {n:Nat}{a:α} (h:s n=some a):lim s=some a:=by
 unfold lim
 have hex:∃n,(s n).isSome=true:=⟨n,by rw[h]; rfl⟩
 rw[dif_pos hex]
 have hc:=hex.choose_spec
 obtain⟨b,hb⟩:=Option.isSome_iff_exists.mp hc
 rcases Nat.le_total n hex.choose with q | q
 ·exact hs _ _ q a h
 ·have:=hs _ _ q b hb
  rw[h] at this; cases this; exact hb
theorem ztv {α:Type}{s:Nat->Option α}{a:α} (h:lim s=some a):∃n,s n=some a:=by
 unfold lim at h
 split at h
 ·exact⟨_,h⟩
 ·cases h
noncomputable def loopW (b:List V->H->Option (AX × List V × H)) (e:List V) (h:H):Option (AX × List V × H):=lim fun n=>z5x b n e h
noncomputable def scopeW (b:Nat->List V->H->Option (AX × List V × H)) (l:Nat) (e:List V) (h:H):Option (AX × List V × H):=lim fun n=>z35 b n l e h
theorem zze {b:List V->H->Option (AX × List V × H)}{e:List V}{h:H}{n:Nat}{r:AX × List V × H} (hn:z5x b n e h=some r):loopW b e h=some r :=
 z0e6 (s:=fun n=>z5x b n e h) (fun n m hnm=>z003 (fun _ _=>LeO.refl _) hnm e h) hn
theorem z06r {b:Nat->List V->H->Option (AX × List V × H)}{l:Nat}{e:List V}{h:H}{n:Nat}{r:AX × List V × H} (hn:z35 b n l e h=some r):scopeW b l e h=some r :=
 z0e6 (s:=fun n=>z35 b n l e h) (fun n m hnm=>zwq (fun _ _ _=>LeO.refl _) hnm l e h) hn
theorem z0l8 {b b':List V->H->Option (AX × List V × H)} (hb:∀e h,LeO (b e h) (b' e h)) (e:List V) (h:H):LeO (loopW b e h) (loopW b' e h):=fun r hr=>by
 obtain⟨n,hn⟩:=ztv hr
 exact zze (z003 hb (Nat.le_refl n) e h r hn)
theorem z0ba {b b':Nat->List V->H->Option (AX × List V × H)} (hb:∀l e h,LeO (b l e h) (b' l e h)) (l:Nat) (e:List V) (h:H):LeO (scopeW b l e h) (scopeW b' l e h):=fun r hr=>by
 obtain⟨n,hn⟩:=ztv hr
 exact z06r (zwq hb (Nat.le_refl n) l e h r hn)
section
variable (prog:Nat->Option AFunc) (meth:Nat->Nat->Option Nat)
noncomputable def envW (call:Nat->List V->H->Option (V × H)):Env:={ call,loop:=loopW,scope:=scopeW,meth }
noncomputable def callN:Nat->Nat->List V->H->Option (V × H)
 | 0,_,_,_=>none
 | n+1,f,args,h=>match prog f with
  | some af=>zeq (envW meth (callN n)) af args h
  | none=>none
noncomputable def callW (f:Nat) (args:List V) (h:H):Option (V × H):=lim fun n=>callN prog meth n f args h
variable {prog meth}
theorem zil {c c':Nat->List V->H->Option (V × H)} (h:∀f args hp,LeO (c f args hp) (c' f args hp)):LeM (envW meth c) (envW meth c') :=
 ⟨h,fun _ _ e h hb=>z0l8 hb e h,fun _ _ l e h hb=>z0ba hb l e h,rfl⟩
theorem z08c:∀ {n m:Nat},n<=m->∀f args h,LeO (callN prog meth n f args h) (callN prog meth m f args h)
 | 0,_,_,_,_,_=>fun r hr=>by simp[callN] at hr
 | n+1,m,hnm,f,args,h=>by
  obtain⟨m,rfl⟩:∃k,m=k+1:=⟨m-1,by omega⟩
  simp only[callN]
  split
  ·exact z0ea (zil fun f args h=>z08c (by omega) f args h) _ _ _
  ·exact LeO.refl _
theorem z0dl {n f:Nat}{args:List V}{h:H}{r:V × H} (hn:callN prog meth n f args h=some r):callW prog meth f args h=some r :=
 z0e6 (s:=fun n=>callN prog meth n f args h) (fun _ _ hnm=>z08c hnm f args h) hn
theorem z0jn (r:Nat):∀(n f:Nat) (args:List V) (h:H),LeO (run prog meth r n f args h) (callN prog meth n f args h)
 | 0,_,_,_=>fun q hq=>by simp[run] at hq
 | n+1,f,args,h=>by
  simp only[run,callN]
  cases prog f with
  | none=>exact LeO.refl _
  | some af =>
   refine z0ea (M:={ call:=run prog meth r n,loop:=fun body env h=>z5x body r env h,scope:=fun body l env h=>z35 body r l env h,meth }) (M':=envW meth (callN prog meth n)) ⟨fun f args h=>z0jn r n f args h,fun b b' e h hb q hq => ?_,fun b b' l e h hb q hq => ?_,rfl⟩ _ _ _
   ·exact zze (z003 hb (Nat.le_refl r) e h q hq)
   ·exact z06r (zwq hb (Nat.le_refl r) l e h q hq)
theorem z069 {r n f:Nat}{args:List V}{h:H}{q:V × H} (hq:run prog meth r n f args h=some q):callW prog meth f args h=some q :=
 z0dl (z0jn r n f args h q hq)
section
variable {c:Nat->Nat->List V->H->Option (V × H)}{cw:Nat->List V->H->Option (V × H)}
structure Chain (c:Nat->Nat->List V->H->Option (V × H)) (cw:Nat->List V->H->Option (V × H)):Prop where
 le:∀n m,n<=m->∀f args h,LeO (c n f args h) (c m f args h)
 lim:∀f args h r,cw f args h=some r->∃n,c n f args h=some r
variable (hc:Chain c cw)
include hc
theorem z0nv {op:AOp}{env:List V}{h:H}{r:V × H} (hs:sd (envW meth cw) op env h=some r):∃n,sd (envW meth (c n)) op env h=some r:=by
 cases op
 case call f as =>
  simp only[sd,step,Option.bind_eq_some_iff] at hs ⊢
  obtain⟨p,hp,hr⟩:=hs
  obtain⟨n,hn⟩:=hc.lim _ _ _ _ hp
  exact⟨n,p,hn,hr⟩
 case callv f as =>
  simp only[sd,step] at hs ⊢
  split at hs
  ·simp only[Option.bind_eq_some_iff] at hs ⊢
   obtain⟨p,hp,hr⟩:=hs
   obtain⟨n,hn⟩:=hc.lim _ _ _ _ hp
   exact⟨n,p,hn,hr⟩
  ·cases hs
 case invoke m r as =>
  simp only[sd,step] at hs ⊢
  split at hs
  ·simp only[Option.bind_eq_some_iff] at hs ⊢
   obtain⟨g,hg,p,hp,hr⟩:=hs
   obtain⟨n,hn⟩:=hc.lim _ _ _ _ hp
   exact⟨n,g,hg,p,hn,hr⟩
  ·cases hs
 all_goals exact⟨0,hs⟩
def KLim {ι R:Type} (kn:Nat->ι->Option R) (k:ι->Option R):Prop:=(∀n m,n<=m->∀i,LeO (kn n i) (kn m i))/\∀i r,k i=some r->∃n,kn n i=some r
omit hc in
theorem KLim.const {ι R:Type} (k:ι->Option R):KLim (fun _=>k) k:=⟨fun _ _ _ _=>LeO.refl _,fun _ _ h=>⟨0,h⟩⟩
theorem z0c0 {R:Type}{i:AI}{env:List V}{h:H}{kn:Nat->List V × H->Option R}{k:List V × H->Option R} (hk:KLim kn k) {r:R}
  (hs:zmj (envW meth cw) i env h (fun e h=>k (e,h))=some r):∃n,zmj (envW meth (c n)) i env h (fun e h=>kn n (e,h))=some r:=by
 obtain⟨v,h1,h2,h3,h4⟩:=zn3 hs
 obtain⟨n,hn⟩:=z0nv hc h2
 obtain⟨m,hm⟩:=hk.2 _ _ h4
 refine⟨max n m,?_⟩
 have hn':=z0lo (zil (meth:=meth) fun f args h=>hc.le n (max n m) (Nat.le_max_left _ _) f args h) _ _ _ _ hn
 have hm':=hk.1 m (max n m) (Nat.le_max_right _ _) _ _ hm
 unfold zmj
 rw[z07f,hn',Option.bind_some]
 have:∀(l:List Chk),l.all (fun c=>c.ok env h1)=true->chks env h1 (kn (max n m) (put env i.dst v,h1)) l=some r:=by
  intro l
  induction l with
  | nil=>intro _; exact hm'
  | cons x l ih =>
   intro hl
   simp only[List.all_cons,Bool.and_eq_true] at hl
   simp only[chks,hl.1]
   exact ih hl.2
 exact this _ h3
theorem z0bc {R:Type}{kn:Nat->List V × H->Option R}{k:List V × H->Option R} (hk:KLim kn k) {r:R}:∀ {l:List AI}{env:List V}{h:H},
  zfy (envW meth cw) l env h (fun e h=>k (e,h))=some r->∃n,zfy (envW meth (c n)) l env h (fun e h=>kn n (e,h))=some r
 | [],env,h,hs=>hk.2 _ _ hs
 | i :: l,env,h,hs=>by
  simp only[zfy] at hs ⊢
  refine z0c0 hc (kn:=fun n p=>zfy (envW meth (c n)) l p.1 p.2 fun e h=>kn n (e,h)) (k:=fun p=>zfy (envW meth cw) l p.1 p.2 fun e h=>k (e,h)) ⟨?_,?_⟩ hs
  ·intro n m hnm p
   exact z03d (zil fun f args h=>hc.le n m hnm f args h) l _ _ fun e h=>hk.1 n m hnm _
  ·intro p r hr
   exact z0bc hk hr
theorem zom {R:Type}{kn:Nat->List V × H->Option R}{k:List V × H->Option R} (hk:KLim kn k) {r:R}:∀ {l:AIs}{env:List V}{h:H},
  z1y (envW meth cw) l env h (fun e h=>k (e,h))=some r->∃n,z1y (envW meth (c n)) l env h (fun e h=>kn n (e,h))=some r
 | .nil,env,h,hs=>hk.2 _ _ hs
 | .op i l,env,h,hs=>by
  simp only[z1y] at hs ⊢
  refine z0c0 hc (kn:=fun n p=>z1y (envW meth (c n)) l p.1 p.2 fun e h=>kn n (e,h)) (k:=fun p=>z1y (envW meth cw) l p.1 p.2 fun e h=>k (e,h)) ⟨?_,?_⟩ hs
  ·intro n m hnm p
   exact ziw (zil fun f args h=>hc.le n m hnm f args h) l _ _ fun e h=>hk.1 n m hnm _
  ·intro p r hr
   exact zom hk hr
 | .grd g w b l,env,h,hs=>by
  have hB:∀env',zfy (envW meth cw) b env' h (fun env h=>z1y (envW meth cw) l env h fun e h=>k (e,h))=some r->∃n,zfy (envW meth (c n)) b env' h (fun env h=>z1y (envW meth (c n)) l env h fun e h=>kn n (e,h))=some r:=by
   intro env' hs
   refine z0bc hc (kn:=fun n p=>z1y (envW meth (c n)) l p.1 p.2 fun e h=>kn n (e,h)) (k:=fun p=>z1y (envW meth cw) l p.1 p.2 fun e h=>k (e,h)) ⟨?_,?_⟩ hs
   ·intro n m hnm p
    exact ziw (zil fun f args h=>hc.le n m hnm f args h) l _ _ fun e h=>hk.1 n m hnm _
   ·intro p r hr
    exact zom hk hr
  simp only[z1y] at hs ⊢
  split at hs
  ·split at hs
   ·exact hB _ hs
   ·exact zom hk hs
  ·split at hs
   ·exact hB _ hs
   ·exact zom hk hs
  ·exact zom hk hs
  ·cases hs
theorem z0b7 {bn:Nat->List V->H->Option (AX × List V × H)}{b:List V->H->Option (AX × List V × H)} (h1:∀n m,n<=m->∀e h,LeO (bn n e h) (bn m e h)) (h2:∀e h r,b e h=some r->∃n,bn n e h=some r) :
  ∀ {m:Nat}{e:List V}{h:H}{r:AX × List V × H},z5x b m e h=some r->∃n,z5x (bn n) m e h=some r
 | 0,_,_,_,hs=>by simp[z5x] at hs
 | m+1,e,h,r,hs=>by
  simp only[z5x] at hs
  cases hb:b e h with
  | none=>rw[hb] at hs; cases hs
  | some q =>
   obtain⟨n1,hn1⟩:=h2 e h q hb
   rw[hb] at hs
   obtain⟨x,e1,hh1⟩:=q
   cases x with
   | normal =>
    obtain⟨n2,hn2⟩:=z0b7 h1 h2 hs
    refine⟨max n1 n2,?_⟩
    simp only[z5x,h1 n1 _ (Nat.le_max_left _ _) e h _ hn1]
    exact z003 (fun e h=>h1 n2 _ (Nat.le_max_right _ _) e h) (Nat.le_refl m) e1 hh1 r hn2
   | exit id=>exact⟨n1,by simp only[z5x,hn1]; exact hs⟩
   | goto id=>exact⟨n1,by simp only[z5x,hn1]; exact hs⟩
   | ret=>exact⟨n1,by simp only[z5x,hn1]; exact hs⟩
theorem z09a {bn:Nat->Nat->List V->H->Option (AX × List V × H)}{b:Nat->List V->H->Option (AX × List V × H)} (h1:∀n m,n<=m->∀l e h,LeO (bn n l e h) (bn m l e h)) (h2:∀l e h r,b l e h=some r->∃n,bn n l e h=some r) :
  ∀ {m l:Nat}{e:List V}{h:H}{r:AX × List V × H},z35 b m l e h=some r->∃n,z35 (bn n) m l e h=some r
 | 0,_,_,_,_,hs=>by simp[z35] at hs
 | m+1,l,e,h,r,hs=>by
  simp only[z35] at hs
  cases hb:b l e h with
  | none=>rw[hb] at hs; cases hs
  | some q =>
   obtain⟨n1,hn1⟩:=h2 l e h q hb
   rw[hb] at hs
   obtain⟨x,e1,hh1⟩:=q
   cases x with
   | goto j =>
    obtain⟨n2,hn2⟩:=z09a h1 h2 hs
    refine⟨max n1 n2,?_⟩
    simp only[z35,h1 n1 _ (Nat.le_max_left _ _) l e h _ hn1]
    exact zwq (fun l e h=>h1 n2 _ (Nat.le_max_right _ _) l e h) (Nat.le_refl m) (j+1) e1 hh1 r hn2
   | exit id=>exact⟨n1,by simp only[z35,hn1]; exact hs⟩
   | normal=>exact⟨n1,by simp only[z35,hn1]; exact hs⟩
   | ret=>exact⟨n1,by simp only[z35,hn1]; exact hs⟩
mutual
theorem zha {R:Type}:∀ {a:ACode}{env:List V}{h:H}{kn:Nat->AX × List V × H->Option R}{k:AX × List V × H->Option R} (_:KLim kn k) {r:R},
  z0i (envW meth cw) a env h (fun x e h=>k (x,e,h))=some r->∃n,z0i (envW meth (c n)) a env h (fun x e h=>kn n (x,e,h))=some r
 | .skip,env,h,kn,k,hk,r,hs=>hk.2 _ _ hs
 | .ops l,env,h,kn,k,hk,r,hs=>by
  simp only[z0i] at hs ⊢
  exact zom hc (kn:=fun n p=>kn n (.normal,p.1,p.2)) (k:=fun p=>k (.normal,p.1,p.2)) ⟨fun n m hnm p=>hk.1 n m hnm _,fun p r hr=>hk.2 _ _ hr⟩ hs
 | .seq a b,env,h,kn,k,hk,r,hs=>by
  simp only[z0i] at hs ⊢
  refine zha (a:=a) (kn:=fun n p=>match p.1 with
   | .normal=>z0i (envW meth (c n)) b p.2.1 p.2.2 fun x e h=>kn n (x,e,h)
   | x=>kn n (x,p.2.1,p.2.2)) (k:=fun p=>match p.1 with
   | .normal=>z0i (envW meth cw) b p.2.1 p.2.2 fun x e h=>k (x,e,h)
   | x=>k (x,p.2.1,p.2.2)) ⟨?_,?_⟩ hs
  ·rintro n m hnm ⟨x,e,h⟩
   cases x with
   | normal=>exact zb9 (zil fun f args h=>hc.le n m hnm f args h) b e h fun x e h=>hk.1 n m hnm _
   | exit id=>exact hk.1 n m hnm _
   | goto id=>exact hk.1 n m hnm _
   | ret=>exact hk.1 n m hnm _
  ·rintro⟨x,e,h⟩ r hr
   cases x with
   | normal=>exact zha (a:=b) hk hr
   | exit id=>exact hk.2 _ _ hr
   | goto id=>exact hk.2 _ _ hr
   | ret=>exact hk.2 _ _ hr
 | .cond cd a b,env,h,kn,k,hk,r,hs=>by
  simp only[z0i,Option.bind_eq_some_iff] at hs ⊢
  obtain⟨t,ht,hs⟩:=hs
  cases t with
  | true=>obtain⟨n,hn⟩:=zha (a:=a) hk hs; exact⟨n,true,ht,hn⟩
  | false=>obtain⟨n,hn⟩:=zha (a:=b) hk hs; exact⟨n,false,ht,hn⟩
 | .block id a,env,h,kn,k,hk,r,hs=>by
  simp only[z0i] at hs ⊢
  refine zha (a:=a) (kn:=fun n p=>match p.1 with
   | .exit j=>match Nat.beq j id with
    | true=>kn n (.normal,p.2.1,p.2.2)
    | false=>kn n (.exit j,p.2.1,p.2.2)
   | x=>kn n (x,p.2.1,p.2.2)) (k:=fun p=>match p.1 with
   | .exit j=>match Nat.beq j id with
    | true=>k (.normal,p.2.1,p.2.2)
    | false=>k (.exit j,p.2.1,p.2.2)
   | x=>k (x,p.2.1,p.2.2)) ⟨?_,?_⟩ hs
  ·rintro n m hnm ⟨x,e,h⟩
   cases x with
   | normal=>exact hk.1 n m hnm _
   | exit j=>simp only; split <;> exact hk.1 n m hnm _
   | goto j=>exact hk.1 n m hnm _
   | ret=>exact hk.1 n m hnm _
  ·rintro⟨x,e,h⟩ r hr
   cases x with
   | normal=>exact hk.2 _ _ hr
   | exit j =>
    simp only at hr ⊢
    split at hr
    ·exact hk.2 _ _ hr
    ·exact hk.2 _ _ hr
   | goto j=>exact hk.2 _ _ hr
   | ret=>exact hk.2 _ _ hr
 | .join keep out a,env,h,kn,k,hk,r,hs=>by
  simp only[z0i,Option.bind_eq_some_iff] at hs ⊢
  obtain⟨p,hl,hs⟩:=hs
  obtain⟨n1,hn1⟩:=zha (a:=a) (kn:=fun _ p=>some (p.1,z00 out 0 p.2.1,p.2.2)) (k:=fun p=>some (p.1,z00 out 0 p.2.1,p.2.2)) (KLim.const _) hl
  obtain⟨n2,hn2⟩:=hk.2 _ _ hs
  refine⟨max n1 n2,p,?_,hk.1 n2 _ (Nat.le_max_right _ _) _ _ hn2⟩
  exact zb9 (zil fun f args h=>hc.le n1 _ (Nat.le_max_left _ _) f args h) a _ h (fun x e h=>LeO.refl _) p hn1
 | .loop keep out a,env,h,kn,k,hk,r,hs=>by
  simp only[z0i,Option.bind_eq_some_iff] at hs ⊢
  obtain⟨p,hl,hs⟩:=hs
  obtain⟨m,hm⟩:=ztv (show lim (fun n=>z5x _ n _ h)=some p from hl)
  obtain⟨n1,hn1⟩:=z0b7 hc (bn:=fun n env h=>z0i (envW meth (c n)) a env h fun x env h=>match x with
   | .normal=>some (.normal,z00 keep 0 env,h)
   | x=>some (x,z00 out 0 env,h)) (fun n m hnm e h=>zb9 (zil fun f args h=>hc.le n m hnm f args h) a e h fun x e h=>LeO.refl _)
   (fun e h r hr=>zha (a:=a) (kn:=fun _ p=>match p.1 with
    | .normal=>some (.normal,z00 keep 0 p.2.1,p.2.2)
    | x=>some (x,z00 out 0 p.2.1,p.2.2)) (k:=fun p=>match p.1 with
    | .normal=>some (.normal,z00 keep 0 p.2.1,p.2.2)
    | x=>some (x,z00 out 0 p.2.1,p.2.2)) (KLim.const _) hr) hm
  obtain⟨n2,hn2⟩:=hk.2 _ _ hs
  refine⟨max n1 n2,p,?_,hk.1 n2 _ (Nat.le_max_right _ _) _ _ hn2⟩
  exact(zil (meth:=meth) fun f args h=>hc.le n1 (max n1 n2) (Nat.le_max_left _ _) f args h).loop _ _ _ _ (fun e h=>zb9 (zil fun f args h=>hc.le n1 _ (Nat.le_max_left _ _) f args h) a e h fun x e h=>LeO.refl _) p (zze hn1)
 | .scope keep out a alts,env,h,kn,k,hk,r,hs=>by
  simp only[z0i,Option.bind_eq_some_iff] at hs ⊢
  obtain⟨p,hl,hs⟩:=hs
  obtain⟨m,hm⟩:=ztv (show lim (fun n=>z35 _ n 0 env h)=some p from hl)
  have hle:∀n m,n<=m->∀l e h,LeO ((fun (n:Nat) (l:Nat) (env:List V) (h:H)=>(match (generalizing:=false) l with
    | 0=>z0i (envW meth (c n)) a env h fun x env h=>match x with
     | .goto j=>some (AX.goto j,z00 keep 0 env,h)
     | x=>some (x,z00 out 0 env,h)
    | l+1=>z10 (envW meth (c n)) alts l env h fun x env h=>match x with
     | .goto j=>some (AX.goto j,z00 keep 0 env,h)
     | x=>some (x,z00 out 0 env,h):Option (AX × List V × H))) n l e h) ((fun (n:Nat) (l:Nat) (env:List V) (h:H)=>(match (generalizing:=false) l with
    | 0=>z0i (envW meth (c n)) a env h fun x env h=>match x with
     | .goto j=>some (AX.goto j,z00 keep 0 env,h)
     | x=>some (x,z00 out 0 env,h)
    | l+1=>z10 (envW meth (c n)) alts l env h fun x env h=>match x with
     | .goto j=>some (AX.goto j,z00 keep 0 env,h)
     | x=>some (x,z00 out 0 env,h):Option (AX × List V × H))) m l e h):=by
   intro n m hnm l e h
   cases l with
   | zero=>exact zb9 (zil fun f args h=>hc.le n m hnm f args h) a e h fun x e h=>LeO.refl _
   | succ l=>exact z08j (zil fun f args h=>hc.le n m hnm f args h) alts l e h fun x e h=>LeO.refl _
  obtain⟨n1,hn1⟩:=z09a hc (bn:=fun (n:Nat) (l:Nat) (env:List V) (h:H)=>(match (generalizing:=false) l with
    | 0=>z0i (envW meth (c n)) a env h fun x env h=>match x with
     | .goto j=>some (AX.goto j,z00 keep 0 env,h)
     | x=>some (x,z00 out 0 env,h)
    | l+1=>z10 (envW meth (c n)) alts l env h fun x env h=>match x with
     | .goto j=>some (AX.goto j,z00 keep 0 env,h)
     | x=>some (x,z00 out 0 env,h):Option (AX × List V × H))) hle
   (fun l e h r hr=>by
    cases l with
    | zero=>exact zha (a:=a) (kn:=fun _ p=>match p.1 with
      | .goto j=>some (AX.goto j,z00 keep 0 p.2.1,p.2.2)
      | x=>some (x,z00 out 0 p.2.1,p.2.2)) (k:=fun p=>match p.1 with
      | .goto j=>some (AX.goto j,z00 keep 0 p.2.1,p.2.2)
      | x=>some (x,z00 out 0 p.2.1,p.2.2)) (KLim.const _) hr
    | succ l=>exact z0bo (a:=alts) (kn:=fun _ p=>match p.1 with
      | .goto j=>some (AX.goto j,z00 keep 0 p.2.1,p.2.2)
      | x=>some (x,z00 out 0 p.2.1,p.2.2)) (k:=fun p=>match p.1 with
      | .goto j=>some (AX.goto j,z00 keep 0 p.2.1,p.2.2)
      | x=>some (x,z00 out 0 p.2.1,p.2.2)) (KLim.const _) hr) hm
  obtain⟨n2,hn2⟩:=hk.2 _ _ hs
  refine⟨max n1 n2,p,?_,hk.1 n2 _ (Nat.le_max_right _ _) _ _ hn2⟩
  exact z0ba (fun l e h=>hle n1 (max n1 n2) (Nat.le_max_left _ _) l e h) 0 env h p (z06r hn1)
 | .alt _ _ _,_,_,_,_,_,_,hs=>by simp[z0i] at hs
 | .exit id,env,h,kn,k,hk,r,hs=>hk.2 _ _ hs
 | .goto id,env,h,kn,k,hk,r,hs=>hk.2 _ _ hs
 | .ret,env,h,kn,k,hk,r,hs=>hk.2 _ _ hs
theorem z0bo {R:Type}:∀ {a:ACode}{l:Nat}{env:List V}{h:H}{kn:Nat->AX × List V × H->Option R}{k:AX × List V × H->Option R} (_:KLim kn k) {r:R},
  z10 (envW meth cw) a l env h (fun x e h=>k (x,e,h))=some r->∃n,z10 (envW meth (c n)) a l env h (fun x e h=>kn n (x,e,h))=some r
 | .alt l' a more,l,env,h,kn,k,hk,r,hs=>by
  simp only[z10] at hs ⊢
  split at hs
  ·exact zha (a:=a) hk hs
  ·exact z0bo (a:=more) hk hs
 | .skip,_,_,_,_,_,_,_,hs=>by simp[z10] at hs
 | .ops _,_,_,_,_,_,_,_,hs=>by simp[z10] at hs
 | .seq _ _,_,_,_,_,_,_,_,hs=>by simp[z10] at hs
 | .cond _ _ _,_,_,_,_,_,_,_,hs=>by simp[z10] at hs
 | .block _ _,_,_,_,_,_,_,_,hs=>by simp[z10] at hs
 | .join _ _ _,_,_,_,_,_,_,_,hs=>by simp[z10] at hs
 | .loop _ _ _,_,_,_,_,_,_,_,hs=>by simp[z10] at hs
 | .scope _ _ _ _,_,_,_,_,_,_,_,hs=>by simp[z10] at hs
 | .exit _,_,_,_,_,_,_,_,hs=>by simp[z10] at hs
 | .goto _,_,_,_,_,_,_,_,hs=>by simp[z10] at hs
 | .ret,_,_,_,_,_,_,_,hs=>by simp[z10] at hs
end
theorem z0bz {f:AFunc}{args:List V}{h:H}{r:V × H} (hs:z06 (envW meth cw) f args h=some r):∃n,z06 (envW meth (c n)) f args h=some r:=by
 unfold z06 at hs ⊢
 split at hs
 ·rename_i hb
  obtain⟨n,hn⟩:=zha hc (kn:=fun _ p=>fin f p.1 p.2.1 p.2.2) (k:=fun p=>fin f p.1 p.2.1 p.2.2) (KLim.const _) hs
  exact⟨n,hn⟩
 ·cases hs
theorem z0ji {f:AFunc}{args:List V}{h:H}{r:V × H} (hs:zeq (envW meth cw) f args h=some r):∃n,zeq (envW meth (c n)) f args h=some r:=by
 unfold zeq at hs ⊢
 split at hs
 ·exact z0bz hc hs
 ·split at hs
  ·simp only[Option.bind_eq_some_iff] at hs
   obtain⟨p,hp,hs⟩:=hs
   obtain⟨n,hn⟩:=z0bz hc hp
   exact⟨n,by rw[hn]; exact hs⟩
  ·cases hs
end
theorem z0nb:Chain (callN prog meth) (callW prog meth):=⟨fun _ _ hnm f args h=>z08c hnm f args h,fun _ _ _ _ h=>ztv h⟩
theorem z08b {f:Nat}{af:AFunc} (hf:prog f=some af) {args:List V}{h:H}{r:V × H} (hs:zeq (envW meth (callW prog meth)) af args h=some r):callW prog meth f args h=some r:=by
 obtain⟨n,hn⟩:=z0ji z0nb hs
 exact z0dl (n:=n+1) (by simp only[callN,hf]; exact hn)
theorem z0g6 {call:Nat->List V->H->Option (V × H)}:LoopOk (envW meth call):=⟨fun _ _ _ _ h=>ztv h,fun _ _ _ _ _ h=>ztv h⟩
theorem z0du {P:Program}{tab:Tab} (hm:P.follows .mixedOrders=true) (hP:ProgOk P tab prog) (hM:zkb P tab meth):∀n,zfp P tab (callN prog meth n)/\NdOk (callN prog meth n)
 | 0=>⟨fun f args h v h' e=>by simp[callN] at e,fun f args h v h' e=>by simp[callN] at e⟩
 | n+1=>by
  obtain⟨ih1,ih2⟩:=z0du hm hP hM n
  constructor
  ·intro f args h v h' e k hk
   simp only[callN] at e
   split at e
   ·rename_i af hf
    obtain⟨hcl,fn,hs,hfn,hcomp⟩:=hP f af hf k hk
    exact⟨hcl,fun β w cargs hR hF ha=>z0km hm ih1 hM ih2 z0g6 hfn hcomp e hR hF ha⟩
   ·cases e
  ·intro f args h v h' e
   simp only[callN] at e
   split at e
   ·exact z0kr ih2 z0g6 e
   ·cases e
theorem z0kw {P:Program}{tab:Tab} (hm:P.follows .mixedOrders=true) (hP:ProgOk P tab prog) (hM:zkb P tab meth):zfp P tab (callW prog meth):=fun f args h v h' e=>by
 obtain⟨n,hn⟩:=ztv e
 exact(z0du hm hP hM n).1 f args h v h' hn
end
end Wm
