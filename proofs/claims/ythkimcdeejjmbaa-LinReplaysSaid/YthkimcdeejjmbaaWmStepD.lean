/- Each operation of my machine, as the model carries it out: comparisons, parts, addresses, slices. -/
import Derived.Test.YthkimcdeejjmbaaWmStepC
set_option linter.all false
namespace Wm
open Go (Value Addr World Obj Program IntKind TypeId Oper Operand Act Exit Sem TypeDesc)
theorem zhw (B o n:Nat):(⟨B,o,none⟩:Addr).add n=⟨B,o+n,none⟩:=Go.Addr.add_lit B o n
section
variable {P:Program}{tab:Tab}{β:Nat->Option Loc}{h h':H}{w:World}{env:List V}{a:Act}{o:Oper}{v:V}{Q:Exit->Act->World->Prop}{M:Env}
theorem z08p {xt:TypeId}{x y:Value} (hx:∀k n,x≠.int k n) (hf:∀k n,x≠.float k n) (hc:∀k p q,x≠.complex k p q) (hs:∀s,x≠.string s) :
  Go.binOp .eql xt x y=(do pure (.bool (<-Go.Op.equal xt x y))):=by
 cases x <;> first | rfl | (exfalso; first | exact hx _ _ rfl | exact hf _ _ rfl | exact hc _ _ _ rfl | exact hs _ rfl)
theorem z09l {xt:TypeId}{x y:Value} (hx:∀k n,x≠.int k n) (hf:∀k n,x≠.float k n) (hc:∀k p q,x≠.complex k p q) (hs:∀s,x≠.string s) :
  Go.binOp .neq xt x y=(do pure (.bool (!(<-Go.Op.equal xt x y)))):=by
 cases x <;> first | rfl | (exfalso; first | exact hx _ _ rfl | exact hf _ _ rfl | exact hc _ _ _ rfl | exact hs _ rfl)
theorem z02k (hR:Rel tab β h.get w) {op:Go.BinOp}{xt yt:TypeId}{x y:Operand}{neg r:Bool} (ho:o.op=.binOp op xt x y yt) (hop:(op=.eql/\neg=false)\/(op=.neq/\neg=true))
  (hg:(Go.eqGuard op xt x y (a.eval x) (a.eval y)).run P w=.ok () w)
  (h1:∀k n,a.eval x≠.int k n) (h2:∀k n,a.eval x≠.float k n) (h3:∀k p q,a.eval x≠.complex k p q) (h4:∀s,a.eval x≠.string s)
  (he:(Go.Op.equal xt (a.eval x) (a.eval y)).run P w=.ok r w) (hv:v=.bool (z0hw neg r)) (hh:h'=h):Gw P o a w (Post tab β h w v h') Q:=by
 subst hv; subst hh
 rcases hop with ⟨rfl,rfl⟩ | ⟨rfl,rfl⟩
 ·exact z03 (cv:=.bool r) (w':=w) (by simp[Go.execOp,ho,hg,z08p h1 h2 h3 h4,he]) (z0b rfl hR)
 ·exact z03 (cv:=.bool (!r)) (w':=w) (by simp[Go.execOp,ho,hg,z09l h1 h2 h3 h4,he]) (z0b rfl hR)
theorem z06m {op:Go.BinOp}{a b:Opd}{e:Eq'}{A:AOp} (h:(match op with | .eql=>some (AOp.eq false e a b) | .neq=>some (AOp.eq true e a b) | _=>none)=some A) :
  ∃neg,A=.eq neg e a b/\((op=.eql/\neg=false)\/(op=.neq/\neg=true)):=by
 cases op <;> simp at h
 ·exact⟨false,h.symm,.inl ⟨rfl,rfl⟩⟩
 ·exact⟨true,h.symm,.inr ⟨rfl,rfl⟩⟩
theorem z0kk (hR:Rel tab β h.get w) (hE:EnvR tab β env a) {op:Go.BinOp}{xt yt:TypeId}{x y:Operand}{x' y':Opd}{neg:Bool} (ho:o.op=.binOp op xt x y yt) (hx:cOpd tab x=some x') (hy:cOpd tab y=some y')
  (hu:P.underlying xt=some .bool) (hop:(op=.eql/\neg=false)\/(op=.neq/\neg=true)) (hs:sd M (.eq neg .bool x' y') env h=some (v,h')):Gw P o a w (Post tab β h w v h') Q:=by
 simp only[sd,step,Option.bind_eq_some_iff,Option.some.injEq,Prod.mk.injEq] at hs
 obtain⟨r,hr,hv,hh⟩:=hs
 simp only[eqV] at hr
 split at hr
 ·rename_i p q e1 e2
  cases hr
  have hxv:=z075 e1 (zu hE hx)
  have hyv:=z075 e2 (zu hE hy)
  refine z02k hR (op:=op) (neg:=neg) ho hop ?_ ?_ ?_ ?_ ?_ ?_ hv.symm hh.symm
  ·rw[hxv]; cases op <;> rfl
  all_goals rw[hxv]
  ·simp
  ·simp
  ·simp
  ·simp
  ·rw[hyv]; exact Go.run_equalIn_bool' w 9999 xt p q hu
 ·cases hr
theorem z0ge (hR:Rel tab β h.get w) (hE:EnvR tab β env a) {op:Go.BinOp}{xt yt:TypeId}{x y:Operand}{x' y':Opd}{neg:Bool} (ho:o.op=.binOp op xt x y yt) (hx:cOpd tab x=some x') (hy:cOpd tab y=some y')
  (hop:(op=.eql/\neg=false)\/(op=.neq/\neg=true)) (hs:sd M (.eq neg .str x' y') env h=some (v,h')):Gw P o a w (Post tab β h w v h') Q:=by
 simp only[sd,step,Option.bind_eq_some_iff,Option.some.injEq,Prod.mk.injEq] at hs
 obtain⟨r,hr,hv,hh⟩:=hs
 subst hv; subst hh
 simp only[eqV] at hr
 split at hr
 ·rename_i p q e1 e2
  cases hr
  have hxv:=zzn e1 (zu hE hx)
  have hyv:=zzn e2 (zu hE hy)
  rcases hop with ⟨rfl,rfl⟩ | ⟨rfl,rfl⟩
  ·exact z03 (cv:=.bool (p.toList == q.toList)) (w':=w) (by simp[Go.execOp,ho,hxv,hyv,Go.eqGuard,Go.binOp,Go.Op.stringOp]) (z0b rfl hR)
  ·exact z03 (cv:=.bool (!(p.toList == q.toList))) (w':=w) (by simp[Go.execOp,ho,hxv,hyv,Go.eqGuard,Go.binOp,Go.Op.stringOp]) (z0b rfl hR)
 ·cases hr
theorem z0m0 (hR:Rel tab β h.get w) (hE:EnvR tab β env a) {op:Go.BinOp}{xt yt e:TypeId}{x y:Operand}{x' y':Opd}{neg:Bool} (ho:o.op=.binOp op xt x y yt) (hx:cOpd tab x=some x') (hy:cOpd tab y=some y')
  (hu:P.underlying xt=some (.pointer e)) (hop:(op=.eql/\neg=false)\/(op=.neq/\neg=true)) (hs:sd M (.eq neg .ptr x' y') env h=some (v,h')):Gw P o a w (Post tab β h w v h') Q:=by
 simp only[sd,step,Option.bind_eq_some_iff,Option.some.injEq,Prod.mk.injEq] at hs
 obtain⟨r,hr,hv,hh⟩:=hs
 simp only[eqV] at hr
 unfold z096 at hr
 have hxr:=zu hE hx
 have hyr:=zu hE hy
 have go:∀p q,a.eval x=.pointer p->a.eval y=.pointer q->(p=none\/q=none)->r=(p.isNone && q.isNone)->Gw P o a w (Post tab β h w v h') Q:=by
  intro p q hp hq hn hrr
  refine z02k hR (op:=op) (neg:=neg) ho hop ?_ ?_ ?_ ?_ ?_ ?_ hv.symm hh.symm
  ·rw[hp]; cases op <;> rfl
  all_goals rw[hp]
  ·simp
  ·simp
  ·simp
  ·simp
  ·rw[hq,hrr]
   cases p with
   | none=>exact(show ∀d,(Go.Op.equalIn (d+1) _ _ _).run P w=_ from fun d=>by simp[Go.Op.equalIn,Go.run_underlying hu]) 9999
   | some p =>
    have:q=none:=by rcases hn with hn | hn <;> simp_all
    subst this
    exact(show ∀d,(Go.Op.equalIn (d+1) _ _ _).run P w=_ from fun d=>by simp[Go.Op.equalIn,Go.run_underlying hu]) 9999
 split at hr
 ·rename_i e1 e2; cases hr; rw[e1] at hxr; rw[e2] at hyr
  exact go none none hxr hyr (.inl rfl) rfl
 ·rename_i e1 e2; cases hr; rw[e1] at hxr; rw[e2] at hyr
  obtain⟨l,_,hyr⟩:=hyr
  exact go none _ hxr hyr (.inl rfl) rfl
 ·rename_i e1 e2; cases hr; rw[e1] at hxr; rw[e2] at hyr
  obtain⟨l,_,hxr⟩:=hxr
  exact go _ none hxr hyr (.inr rfl) rfl
 ·cases hr
theorem z012 {b o n:Nat}{cap:Cap}{c:Value} (hr:RV tab β (.sl b o n cap) c):∃l A cc,β b=some l/\c=.slice (some A) n cc/\n<=cc/\(0<n->A=⟨l.blk,o+l.sh,none⟩)/\(∀k,cap=.ex k->cc=k/\A=⟨l.blk,o+l.sh,none⟩)/\(∀z,cap=.op z->A.off+cc * z<=l.size/\l.esz=z):=by
 cases cap with
 | ex k=>obtain⟨l,hl,rfl,hn⟩:=hr; exact⟨l,_,k,hl,rfl,hn,fun _=>rfl,(fun k' e=>by cases e; exact⟨rfl,rfl⟩),(fun z e=>by cases e)⟩
 | op z=>obtain⟨l,c,A,hl,rfl,hn,hA,hO,hs,hz⟩:=hr; exact⟨l,A,c,hl,rfl,hn,(fun h0=>by have:=hA (by omega); rw[hO h0] at this; exact this),(fun k e=>by cases e),(fun z' e=>by cases e; exact⟨hs,hz⟩)⟩
theorem z0ny (hR:Rel tab β h.get w) (hE:EnvR tab β env a) {op:Go.BinOp}{xt yt e:TypeId}{x y:Operand}{x' y':Opd}{neg:Bool} (ho:o.op=.binOp op xt x y yt) (hx:cOpd tab x=some x') (hy:cOpd tab y=some y')
  (hu:P.underlying xt=some (.slice e)) (hop:(op=.eql/\neg=false)\/(op=.neq/\neg=true)) (hs:sd M (.eq neg .sl x' y') env h=some (v,h')):Gw P o a w (Post tab β h w v h') Q:=by
 simp only[sd,step,Option.bind_eq_some_iff,Option.some.injEq,Prod.mk.injEq] at hs
 obtain⟨r,hr,hv,hh⟩:=hs
 simp only[eqV] at hr
 unfold eqSl at hr
 have hxr:=zu hE hx
 have hyr:=zu hE hy
 have go:∀p n1 c1 q n2 c2,a.eval x=.slice p n1 c1->a.eval y=.slice q n2 c2->(p=none\/q=none)->r=(p.isNone && q.isNone)->Gw P o a w (Post tab β h w v h') Q:=by
  intro p n1 c1 q n2 c2 hp hq hn hrr
  refine z02k hR (op:=op) (neg:=neg) ho hop ?_ ?_ ?_ ?_ ?_ ?_ hv.symm hh.symm
  ·rw[hp]; cases op <;> rfl
  all_goals rw[hp]
  ·simp
  ·simp
  ·simp
  ·simp
  ·rw[hq,hrr]
   cases p with
   | none=>exact(show ∀d,(Go.Op.equalIn (d+1) _ _ _).run P w=_ from fun d=>by simp[Go.Op.equalIn,Go.run_underlying hu]) 9999
   | some p =>
    have:q=none:=by rcases hn with hn | hn <;> simp_all
    subst this
    exact(show ∀d,(Go.Op.equalIn (d+1) _ _ _).run P w=_ from fun d=>by simp[Go.Op.equalIn,Go.run_underlying hu]) 9999
 split at hr
 ·rename_i e1 e2; cases hr; rw[e1] at hxr; rw[e2] at hyr
  exact go none 0 0 none 0 0 hxr hyr (.inl rfl) rfl
 ·rename_i e1 e2; cases hr; rw[e1] at hxr; rw[e2] at hyr
  obtain⟨l,O,cc,_,hyr,_⟩:=z012 hyr
  exact go none 0 0 _ _ _ hxr hyr (.inl rfl) rfl
 ·rename_i e1 e2; cases hr; rw[e1] at hxr; rw[e2] at hyr
  obtain⟨l,O,cc,_,hxr,_⟩:=z012 hxr
  exact go _ _ _ none 0 0 hxr hyr (.inr rfl) rfl
 ·cases hr
theorem z0gb (hR:Rel tab β h.get w) (hE:EnvR tab β env a) {op:Go.BinOp}{xt yt:TypeId}{ms:Array (String × TypeId)}{x y:Operand}{x' y':Opd}{neg:Bool} (ho:o.op=.binOp op xt x y yt) (hx:cOpd tab x=some x') (hy:cOpd tab y=some y')
  (hu:P.underlying xt=some (.interface ms)) (hk:(zt4 x || zt4 y)=true) (hop:(op=.eql/\neg=false)\/(op=.neq/\neg=true)) (hs:sd M (.eq neg .ifc x' y') env h=some (v,h')):Gw P o a w (Post tab β h w v h') Q:=by
 simp only[sd,step,Option.bind_eq_some_iff,Option.some.injEq,Prod.mk.injEq] at hs
 obtain⟨r,hr,hv,hh⟩:=hs
 simp only[eqV] at hr
 unfold zod at hr
 have hxr:=zu hE hx
 have hyr:=zu hE hy
 have guard0:a.eval x=.nilIface->a.eval y=.nilIface->(Go.eqGuard op xt x y (a.eval x) (a.eval y)).run P w=.ok () w:=by
  intro e1 e2
  rw[e1,e2]
  cases x <;> cases y <;> simp[zt4] at hk <;> cases op <;> simp[Go.eqGuard]
 have gen:(Go.eqGuard op xt x y (a.eval x) (a.eval y)).run P w=.ok () w->(Go.Op.equal xt (a.eval x) (a.eval y)).run P w=.ok r w->(a.eval x=.nilIface\/∃t z,a.eval x=.iface t z)->Gw P o a w (Post tab β h w v h') Q:=by
  intro hg he hform
  refine z02k hR (op:=op) (neg:=neg) ho hop hg ?_ ?_ ?_ ?_ he hv.symm hh.symm
  all_goals rcases hform with e | ⟨t,z,e⟩ <;> rw[e] <;> simp
 split at hr
 ·rename_i e1 e2; cases hr; rw[e1] at hxr; rw[e2] at hyr
  refine gen (guard0 hxr hyr) ?_ (.inl hxr)
  rw[show a.eval x=.nilIface from hxr,show a.eval y=.nilIface from hyr]
  exact(show ∀d,(Go.Op.equalIn (d+1) _ _ _).run P w=_ from fun d=>by simp[Go.Op.equalIn,Go.run_underlying hu]) 9999
 ·rename_i e1 e2; cases hr; rw[e1] at hxr; rw[e2] at hyr
  obtain⟨T,z,hyr,_⟩:=hyr
  have hxr':a.eval x=.nilIface:=hxr
  refine gen ?_ ?_ (.inl hxr)
  ·rw[hxr',hyr]; cases op <;> rfl
  ·rw[hxr',hyr]; exact(show ∀d,(Go.Op.equalIn (d+1) _ _ _).run P w=_ from fun d=>by simp[Go.Op.equalIn,Go.run_underlying hu]) 9999
 ·rename_i e1 e2; cases hr; rw[e1] at hxr; rw[e2] at hyr
  obtain⟨T,z,hxr,_⟩:=hxr
  have hyr':a.eval y=.nilIface:=hyr
  refine gen ?_ ?_ (.inr ⟨_,_,hxr⟩)
  ·rw[hxr,hyr']; cases op <;> rfl
  ·rw[hxr,hyr']; exact(show ∀d,(Go.Op.equalIn (d+1) _ _ _).run P w=_ from fun d=>by simp[Go.Op.equalIn,Go.run_underlying hu]) 9999
 ·cases hr
theorem z0n0 (hR:Rel tab β h.get w) (hE:EnvR tab β env a) {op:Go.BinOp}{xt yt:TypeId}{fs:Array Go.Field}{x y:Operand}{x' y':Opd}{neg:Bool}{offs:List (Nat × Ck)} (ho:o.op=.binOp op xt x y yt) (hx:cOpd tab x=some x') (hy:cOpd tab y=some y')
  (hu:P.underlying xt=some (.struct fs)) (hgd:P.eqGuardType P.depth xt=false) (hoff:zm0 P 6 xt=some offs) (hop:(op=.eql/\neg=false)\/(op=.neq/\neg=true)) (hs:sd M (.eq neg (.agg offs) x' y') env h=some (v,h')):Gw P o a w (Post tab β h w v h') Q:=by
 simp only[sd,step,Option.bind_eq_some_iff,Option.some.injEq,Prod.mk.injEq] at hs
 obtain⟨r,hr,hv,hh⟩:=hs
 simp only[eqV] at hr
 have hxr:=zu hE hx
 have hyr:=zu hE hy
 split at hr
 ·rename_i xs ys e1 e2
  rw[e1] at hxr; rw[e2] at hyr
  obtain⟨c1,hc1,r1⟩:=hxr
  obtain⟨c2,hc2,r2⟩:=hyr
  refine z02k hR (op:=op) (neg:=neg) ho hop ?_ ?_ ?_ ?_ ?_ ?_ hv.symm hh.symm
  ·rw[hc1,hc2]; exact Go.run_eqGuard_agg w op xt x y c1 c2 hgd
  all_goals rw[hc1]
  ·simp
  ·simp
  ·simp
  ·simp
  ·rw[hc2]
   exact(z0nm w 6 xt offs hoff 10000 (by omega)).1 (by simp[z5u,hu]) xs ys c1 c2 r r1 r2 hr
 ·cases hr
theorem z0o7 (hR:Rel tab β h.get w) (hE:EnvR tab β env a) {xt yt:TypeId}{x y:Operand}{x' y':Opd} (ho:o.op=.binOp .add xt x y yt) (hx:cOpd tab x=some x') (hy:cOpd tab y=some y')
  (hs:sd M (.cat x' y') env h=some (v,h')):Gw P o a w (Post tab β h w v h') Q:=by
 simp only[sd,step,Option.bind_eq_some_iff] at hs
 obtain⟨p,hp,q,hq,hs⟩:=hs
 split at hs
 ·rename_i hle; simp at hle; cases hs
  have hxv:=zzn (z02y hp) (zu hE hx)
  have hyv:=zzn (z02y hq) (zu hE hy)
  refine z03 (cv:=.string (p ++ q)) (w':=w) ?_ (z0b rfl hR)
  simp[Go.execOp,ho,hxv,hyv,Go.eqGuard_add,Go.binOp,Go.Op.stringOp]
  omega
 ·cases hs
theorem z0nt (hR:Rel tab β h.get w) (hE:EnvR tab β env a) {x:Operand}{y:Opd} (ho:o.op=.nilCheck x) (hc:cOpd tab x=some y) (hs:sd M (.nilc y) env h=some (v,h')) :
  Gw P o a w (Post tab β h w v h') Q:=by
 simp only[sd,step,Option.bind_eq_some_iff,Option.some.injEq,Prod.mk.injEq] at hs
 obtain⟨u,hu,rfl,rfl⟩:=hs
 have hr:=zu hE hc
 unfold nilc at hu
 split at hu
 ·rename_i e; cases hu; rw[e] at hr
  have hr':=hr
  obtain⟨l,hl,hv⟩:=hr
  exact z03 (cv:=a.eval x) (w':=w) (by rw[hv]; simp[Go.execOp,ho,hv]) (z0b hr' hR)
 ·rename_i e; cases hu; rw[e] at hr
  have hr':=hr
  obtain⟨k,cs,hv,_⟩:=hr
  exact z03 (cv:=a.eval x) (w':=w) (by rw[hv]; simp[Go.execOp,ho,hv]) (z0b hr' hR)
 ·rename_i e; cases hu; rw[e] at hr
  have hr':=hr
  obtain⟨T,z,hv,_⟩:=hr
  exact z03 (cv:=a.eval x) (w':=w) (by rw[hv]; simp[Go.execOp,ho,hv]) (z0b hr' hR)
 ·cases hu
theorem z09n {x:V}{n:Nat}{u:V} (h:za x n=some u):∃b o,x=.ptr b o/\u=.ptr b (o+n):=by
 cases x <;> simp[za] at h
 exact⟨_,_,rfl,h.symm⟩
theorem z0lc (hR:Rel tab β h.get w) (hE:EnvR tab β env a) {s:TypeId}{x:Operand}{y:Opd}{i:Nat}{fs:Array Go.Field}{f:Go.Field} (ho:o.op=.fieldAddr s x i) (hu:P.underlying s=some (.struct fs)) (hf:fs[i]?=some f)
  (hz:P.cellsOf f.type≠0) (hc:cOpd tab x=some y) (hs:sd M (.fieldA f.offset y) env h=some (v,h')):Gw P o a w (Post tab β h w v h') Q:=by
 simp only[sd,step,Option.bind_eq_some_iff,Option.some.injEq,Prod.mk.injEq] at hs
 obtain⟨u,hu',rfl,rfl⟩:=hs
 obtain⟨b,off,e1,rfl⟩:=z09n hu'
 have hr:=zu hE hc
 rw[e1] at hr
 obtain⟨l,hl,hv⟩:=hr
 refine z03 (cv:=.pointer (some ⟨l.blk,off+f.offset+l.sh,none⟩)) (w':=w) ?_ (z0b ⟨l,hl,rfl⟩ hR)
 obtain⟨inf,hinf⟩:∃inf,P.info? f.type=some inf:=by
  cases hi:P.info? f.type with
  | none=>simp[Program.cellsOf,hi] at hz
  | some inf=>exact⟨inf,rfl⟩
 have hsz:inf.size≠0:=by simpa [Program.cellsOf,hinf] using hz
 simp[Go.execOp,ho,hv,Go.Instr.fieldAt,Go.run_underlying hu,hf,Go.Instr.sureAddr,Go.fieldPlace,Go.sizeOf,ze5 hinf,hsz,zhw]
 omega
theorem z0em {cs:List V}{c:Array Value} (hc:RVs tab β cs c.toList) {t:TypeId}{d:TypeDesc} (hu:P.underlying t=some d) {off:Nat}{u:V} (hp:part (z5u P t) cs off (P.cellsOf t)=some u) :
  ∃cv,(Go.part t c off).run P w=.ok cv w/\RV tab β u cv:=by
 unfold part at hp
 rw[zzs hu]
 split at hp
 ·rename_i e; cases hp
  rw[e]
  exact⟨_,rfl,_,rfl,z01m hc _ _⟩
 ·rename_i e
  rw[e]
  obtain⟨x,hx,hr⟩:=RVs.get hc off u hp
  have:c[off]?=some x:=by simpa using hx
  rw[this]
  exact⟨x,rfl,hr⟩
theorem z0mz (hR:Rel tab β h.get w) (hE:EnvR tab β env a) {t:TypeId}{x:Operand}{y:Opd}{i:Nat}{fs:Array Go.Field}{f:Go.Field}{d:TypeDesc} (ho:o.op=.field t x i) (hu:P.underlying t=some (.struct fs)) (hf:fs[i]?=some f)
  (hd:P.underlying f.type=some d) (hc:cOpd tab x=some y) (hs:sd M (.field f.offset (P.cellsOf f.type) (z5u P f.type) y) env h=some (v,h')):Gw P o a w (Post tab β h w v h') Q:=by
 simp only[sd,step,Option.bind_eq_some_iff,Option.some.injEq,Prod.mk.injEq] at hs
 obtain⟨cs,hcs,u,hp,rfl,rfl⟩:=hs
 have hr:=zu hE hc
 rw[z03x hcs] at hr
 obtain⟨c,hcv,hcr⟩:=hr
 obtain⟨cv,hrun,hrel⟩:=z0em (w:=w) hcr hd hp
 refine z03 (cv:=cv) (w':=w) ?_ (z0b hrel hR)
 simp[Go.execOp,ho,hcv,Go.Instr.field,Go.run_underlying hu,hf,Go.asAgg,hrun]
theorem zsg {n:Nat}{x:V}{j:Nat} (h:zkk n x=some j):∃k i,x=.int k i/\0<=i/\i<(n:Int)/\j=i.toNat:=by
 unfold zkk at h
 split at h
 ·rename_i i hi
  obtain⟨k,rfl⟩:=z01b hi
  split at h
  ·rename_i hb; simp at hb; cases h; exact⟨k,i,rfl,hb.1,hb.2,rfl⟩
  ·cases h
 ·cases h
theorem z0kb (hR:Rel tab β h.get w) (hE:EnvR tab β env a) {t e:TypeId}{x i:Operand}{x' i':Opd}{inf:Go.TypeInfo} (ho:o.op=.indexAddr t x i) (hu:P.underlying t=some (.slice e)) (hinf:P.info? e=some inf)
  (hx:cOpd tab x=some x') (hi:cOpd tab i=some i') (hs:sd M (.indexA (P.cellsOf e) x' i') env h=some (v,h')):Gw P o a w (Post tab β h w v h') Q:=by
 simp only[sd,step,Option.bind_eq_some_iff,Option.some.injEq,Prod.mk.injEq] at hs
 obtain⟨u,hu',rfl,rfl⟩:=hs
 unfold z0 at hu'
 split at hu'
 ·rename_i b off n cap e1
  split at hu'
  ·rename_i j hj
   cases hu'
   obtain⟨k,q,e2,h0,h1,rfl⟩:=zsg hj
   have hxr:=zu hE hx
   rw[e1] at hxr
   obtain⟨l,O,cc,hl,hxv,hn,hO,_,_⟩:=z012 hxr
   have hiv:=zi3 e2 (zu hE hi)
   have hO':=hO (by omega)
   subst hO'
   have hcz:P.cellsOf e=inf.size:=by simp[Program.cellsOf,hinf]
   refine z03 (cv:=.pointer (some ⟨l.blk,off+q.toNat * P.cellsOf e+l.sh,none⟩)) (w':=w) ?_ (z0b ⟨l,hl,rfl⟩ hR)
   have ht:(t:TypeId)=t:=rfl
   simp[Go.execOp,ho,hxv,hiv,Go.Instr.indexAt,Go.asIntOf,Go.run_underlying hu,h0,h1,Go.sizeOf,ze5 hinf,zhw,hcz]
   omega
  ·cases hu'
 ·cases hu'
theorem z0hn (hR:Rel tab β h.get w) (hE:EnvR tab β env a) {t e:TypeId}{n:Nat}{x i:Operand}{x' i':Opd}{inf:Go.TypeInfo} (ho:o.op=.indexAddr t x i) (hu:P.underlying t=some (.array n e)) (hinf:P.info? e=some inf)
  (hx:cOpd tab x=some x') (hi:cOpd tab i=some i') (hs:sd M (.indexArr n (P.cellsOf e) x' i') env h=some (v,h')):Gw P o a w (Post tab β h w v h') Q:=by
 simp only[sd,step,Option.bind_eq_some_iff,Option.some.injEq,Prod.mk.injEq] at hs
 obtain⟨j,hj,u,hu',rfl,rfl⟩:=hs
 obtain⟨b,off,e1,rfl⟩:=z09n hu'
 obtain⟨k,q,e2,h0,h1,rfl⟩:=zsg hj
 have hxr:=zu hE hx
 rw[e1] at hxr
 obtain⟨l,hl,hxv⟩:=hxr
 have hiv:=zi3 e2 (zu hE hi)
 have hcz:P.cellsOf e=inf.size:=by simp[Program.cellsOf,hinf]
 refine z03 (cv:=.pointer (some ⟨l.blk,off+q.toNat * P.cellsOf e+l.sh,none⟩)) (w':=w) ?_ (z0b ⟨l,hl,rfl⟩ hR)
 simp[Go.execOp,ho,hxv,hiv,Go.Instr.indexAt,Go.Instr.sureAddr,Go.asIntOf,Go.run_underlying hu,h0,h1,Go.sizeOf,ze5 hinf,zhw,hcz]
 omega
theorem z0i2 (hR:Rel tab β h.get w) (hE:EnvR tab β env a) {t e:TypeId}{n:Nat}{x i:Operand}{x' i':Opd}{d:TypeDesc} (ho:o.op=.index t x i) (hu:P.underlying t=some (.array n e)) (hd:P.underlying e=some d)
  (hx:cOpd tab x=some x') (hi:cOpd tab i=some i') (hs:sd M (.indexAgg n (P.cellsOf e) (z5u P e) x' i') env h=some (v,h')):Gw P o a w (Post tab β h w v h') Q:=by
 simp only[sd,step,Option.bind_eq_some_iff,Option.some.injEq,Prod.mk.injEq] at hs
 obtain⟨cs,hcs,j,hj,u,hp,rfl,rfl⟩:=hs
 obtain⟨k,q,e2,h0,h1,rfl⟩:=zsg hj
 have hr:=zu hE hx
 rw[z03x hcs] at hr
 obtain⟨c,hcv,hcr⟩:=hr
 have hiv:=zi3 e2 (zu hE hi)
 obtain⟨cv,hrun,hrel⟩:=z0em (w:=w) hcr hd hp
 refine z03 (cv:=cv) (w':=w) ?_ (z0b hrel hR)
 simp[Go.execOp,ho,hcv,hiv,Go.Instr.index,Go.asIntOf,Go.run_underlying hu,h0,h1,z008 hd,hrun]
theorem z0i7 (hR:Rel tab β h.get w) (hE:EnvR tab β env a) {t:TypeId}{x i:Operand}{x' i':Opd} (ho:o.op=.index t x i) (hu:P.underlying t=some .string)
  (hx:cOpd tab x=some x') (hi:cOpd tab i=some i') (hs:sd M (.indexStr x' i') env h=some (v,h')):Gw P o a w (Post tab β h w v h') Q:=by
 simp only[sd,step,Option.bind_eq_some_iff,Option.some.injEq,Prod.mk.injEq] at hs
 obtain⟨s,hss,j,hj,rfl,rfl⟩:=hs
 obtain⟨k,q,e2,h0,h1,rfl⟩:=zsg hj
 have hxv:=zzn (z02y hss) (zu hE hx)
 have hiv:=zi3 e2 (zu hE hi)
 have hlt:q.toNat<s.size:=by omega
 have hget:s[q.toNat]?=some (s.get! q.toNat):=by
  rw[getElem?_pos s q.toNat hlt]
  congr 1
  show s.data[q.toNat]=s.data[q.toNat]!
  exact(getElem!_pos s.data q.toNat hlt).symm
 refine z03 (cv:=.int .u8 (s.get! q.toNat).toNat) (w':=w) ?_ (z0b rfl hR)
 simp[Go.execOp,ho,hxv,hiv,Go.Instr.index,Go.asIntOf,Go.run_underlying hu,h0,hget]
theorem z0mx (hR:Rel tab β h.get w) (hE:EnvR tab β env a) {c:Go.Call}{t e:TypeId}{x:Operand}{x':Opd} (ho:o.op=.call c) (hcal:c.callee=.builtin .len) (hargs:c.args = #[x]) (htys:c.argTypes = #[t]) (hu:P.underlying t=some (.slice e))
  (hx:cOpd tab x=some x') (hs:sd M (.lenSl x') env h=some (v,h')):Gw P o a w (Post tab β h w v h') Q:=by
 simp only[sd,step,Option.bind_eq_some_iff,Option.some.injEq,Prod.mk.injEq] at hs
 obtain⟨n,hn,rfl,rfl⟩:=hs
 have hxr:=zu hE hx
 have go:∀p cc,a.eval x=.slice p n cc->Gw P o a w (Post tab β h w (.int .i64 n) h) Q:=by
  intro p cc hp
  refine z03 (cv:=.int .i64 n) (w':=w) ?_ (z0b rfl hR)
  simp[Go.execOp,ho,Go.resolve,hcal,hargs,htys,hp,Go.invoke,Go.builtin,Go.Builtin.len_,Go.run_underlying hu,Go.goInt]
 unfold lenSl at hn
 split at hn
 ·rename_i e1; cases hn; rw[e1] at hxr; exact go none 0 hxr
 ·rename_i e1; cases hn; rw[e1] at hxr
  obtain⟨l,O,cc,_,hxv,_⟩:=z012 hxr
  exact go _ cc hxv
 ·cases hn
theorem z0ld (hR:Rel tab β h.get w) (hE:EnvR tab β env a) {c:Go.Call}{t:TypeId}{x:Operand}{x':Opd} (ho:o.op=.call c) (hcal:c.callee=.builtin .len) (hargs:c.args = #[x]) (htys:c.argTypes = #[t]) (hu:P.underlying t=some .string)
  (hx:cOpd tab x=some x') (hs:sd M (.lenStr x') env h=some (v,h')):Gw P o a w (Post tab β h w v h') Q:=by
 simp only[sd,step,Option.bind_eq_some_iff,Option.some.injEq,Prod.mk.injEq] at hs
 obtain⟨s,hss,rfl,rfl⟩:=hs
 have hxv:=zzn (z02y hss) (zu hE hx)
 refine z03 (cv:=.int .i64 s.size) (w':=w) ?_ (z0b rfl hR)
 simp[Go.execOp,ho,Go.resolve,hcal,hargs,htys,hxv,Go.invoke,Go.builtin,Go.Builtin.len_,Go.run_underlying hu,Go.goInt]
theorem z0di (hR:Rel tab β h.get w) (hE:EnvR tab β env a) {c:Go.Call}{isMax:Bool}{x y:Operand}{x' y':Opd}{k:IntKind} (ho:o.op=.call c) (hcal:c.callee=.builtin (match isMax with | true=>.max | false=>.min)) (hargs:c.args = #[x,y])
  (hx:cOpd tab x=some x') (hy:cOpd tab y=some y') (hs:sd M (.minmax isMax k x' y') env h=some (v,h')):Gw P o a w (Post tab β h w v h') Q:=by
 simp only[sd,step,Option.bind_eq_some_iff,Option.some.injEq,Prod.mk.injEq] at hs
 obtain⟨m,hm,n,hn,rfl,rfl⟩:=hs
 have hxv:=zi3 (zj9 hm) (zu hE hx)
 have hyv:=zi3 (zj9 hn) (zu hE hy)
 cases isMax with
 | true =>
  refine z03 (cv:=.int k (max m n)) (w':=w) ?_ (z0b rfl hR)
  simp[Go.execOp,ho,Go.resolve,hcal,hargs,hxv,hyv,Go.invoke,Go.builtin,Go.Builtin.max_,Go.Builtin.max2]
  split <;> omega
 | false =>
  refine z03 (cv:=.int k (min m n)) (w':=w) ?_ (z0b rfl hR)
  simp[Go.execOp,ho,Go.resolve,hcal,hargs,hxv,hyv,Go.invoke,Go.builtin,Go.Builtin.min_,Go.Builtin.min2]
  split <;> omega
theorem z0mg (hR:Rel tab β h.get w) (hE:EnvR tab β env a) {t t':TypeId}{d:TypeDesc}{x:Operand}{x':Opd} (ho:o.op=.makeInterface t x) (hu:P.underlying t=some d) (hd:∀ms,d≠.interface ms) (ht:zbg tab.ty t=some t') (hx:cOpd tab x=some x')
  (hs:sd M (.mkIfc t' x') env h=some (v,h')):Gw P o a w (Post tab β h w v h') Q:=by
 simp only[sd,step,Option.some.injEq,Prod.mk.injEq] at hs
 obtain⟨rfl,rfl⟩:=hs
 refine z03 (cv:=.iface t (a.eval x)) (w':=w) ?_ (z0b ⟨t,_,rfl,ht,zu hE hx⟩ hR)
 have:(Go.Instr.makeInterface t (a.eval x)).run P w=.ok (.iface t (a.eval x)) w:=by
  unfold Go.Instr.makeInterface
  simp only[Go.Sem.run_bind,Go.run_underlying hu,Go.Result.andThen_ok]
  cases d <;> first | rfl | exact absurd rfl (hd _)
 simp[Go.execOp,ho,this]
theorem z0nx (hR:Rel tab β h.get w) (hE:EnvR tab β env a) {f f':Nat}{first caps:Array Operand}{caps':List Opd} (ho:o.op=.makeFunc (.func f) first caps) (hfirst:first.size=0) (ht:zbg tab.fn f=some f') (hx:zo1 tab caps.toList=some caps')
  (hs:sd M (.mkFn f' caps') env h=some (v,h')):Gw P o a w (Post tab β h w v h') Q:=by
 simp only[sd,step,Option.some.injEq,Prod.mk.injEq] at hs
 obtain⟨rfl,rfl⟩:=hs
 have hfe:first = #[]:=Array.eq_empty_of_size_eq_zero hfirst
 subst hfe
 refine z03 (cv:=.func (.func f) #[] (caps.map a.eval)) (w':=w) ?_ (z0b ⟨f,_,rfl,ht,?_⟩ hR)
 ·simp[Go.execOp,ho,Go.Instr.makeFunc]
 ·rw[Array.toList_map]; exact zzf hE hx
end
end Wm
