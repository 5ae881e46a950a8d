/- Each operation of my machine, as the model carries it out: copy, strings, maps. -/
import Derived.Test.YthkimcdeejjmbaaWmStepH
import Derived.KernelRfl
set_option linter.all false
namespace Wm
open Go (Value Addr World Obj Program IntKind TypeId Oper Operand Act Exit Sem TypeDesc)
section
variable {P:Program}{tab:Tab}{β:Nat->Option Loc}{h h':H}{w:World}{env:List V}{a:Act}{o:Oper}{v:V}{Q:Exit->Act->World->Prop}{M:Env}
theorem z0bm {x:V}{c:Value}{n:Nat} (hx:RV tab β x c) (hn:lenSl x=some n):∃base cap,c=.slice base n cap:=by
 unfold lenSl at hn
 split at hn
 ·cases hn; exact⟨none,0,hx⟩
 ·cases hn
  obtain⟨l,O,cc,_,hv,_⟩:=z012 hx
  exact⟨_,_,hv⟩
 ·cases hn
theorem z0o1 (hR:Rel tab β h.get w) (hE:EnvR tab β env a) {c:Go.Call}{t u e:TypeId}{x y:Operand}{x' y':Opd}{inf:Go.TypeInfo} (ho:o.op=.call c) (hcal:c.callee=.builtin .copy) (hargs:c.args = #[x,y]) (htys:c.argTypes = #[t,u])
  (hu:P.underlying t=some (.slice e)) (hinf:P.info? e=some inf) (hx:cOpd tab x=some x') (hy:cOpd tab y=some y')
  (hs:sd M (.copy (P.cellsOf e) x' y') env h=some (v,h')):Gw P o a w (Post tab β h w v h') Q:=by
 simp only[sd,step,Option.bind_eq_some_iff,Option.some.injEq] at hs
 obtain⟨⟨v0,h0⟩,hp,he⟩:=hs
 cases he
 have hcz:P.cellsOf e=inf.size:=by simp[Program.cellsOf,hinf]
 rw[hcz] at hp
 have hrunc:(Go.execOp a.eval o).run P w=((Go.Builtin.copy_ #[t,u] o.type #[a.eval x,a.eval y]).run P w).andThen fun v w'=>.ok (.value v) w':=by
  simp[Go.execOp,ho,Go.resolve,hcal,hargs,htys,Go.invoke,Go.builtin]
 have hxr:=zu hE hx
 have hyr:=zu hE hy
 unfold H.copy at hp
 split at hp
 ·rename_i n m hn hm
  split at hp
  ·rename_i h0'
   have h0':=Nat.eq_of_beq_eq_true h0'
   cases hp
   obtain⟨b1,c1,hxv⟩:=z0bm hxr hn
   obtain⟨b2,c2,hyv⟩:=z0bm hyr hm
   refine z03 (cv:=.int .i64 0) (w':=w) ?_ (z0b rfl hR)
   have hmin:Nat.min m n=0:=h0'
   have hl:∀A:Addr,(Go.loadCells A 0).run P w=.ok #[] w:=fun A=>by simp[Go.loadCells,Go.loadCellsFrom]
   rw[hrunc,hxv,hyv]
   cases b1 <;> cases b2 <;> simp[Go.Builtin.copy_,Go.run_underlying hu,Go.sizeOf,ze5 hinf,Go.Builtin.lenOf,Go.Builtin.firstCells,Go.goInt,Go.storeCells,hmin,hl]
  ·rename_i h0'
   have h0':=Nat.ne_of_beq_eq_false h0'
   split at hp
   ·rename_i b off n2 c2 b3 off3 n3 c3 e1 e2
    rw[e1] at hyr hm
    rw[e2] at hxr hn
    simp only[lenSl,Option.some.injEq] at hm hn; subst hm; subst hn
    split at hp
    ·rename_i l0 hld
     split at hp
     ·rename_i h2 hst
      cases hp
      obtain⟨l,O,cc,hl,hyv,_,hO,_,_⟩:=z012 hyr
      obtain⟨l3,O3,cc3,hl3,hxv,_,hO3,_,_⟩:=z012 hxr
      have hO:=hO (by omega)
      have hO3:=hO3 (by omega)
      subst hO; subst hO3
      obtain⟨hlen,d,hd,hcell⟩:=z078 hR hl hld
      have hload:=z015 (P:=P) (w:=w) (n:=min n2 n3 * inf.size) (by rw[<-RVs.length hd,hlen]) hcell
      obtain⟨w',hrun,hrel,htr⟩:=z0an (P:=P) hR hl3 hd hst
      refine z03 (cv:=.int .i64 (min n2 n3:Nat)) (w':=w') ?_ ⟨β,rfl,hrel,htr⟩
      have hmm:Nat.min n2 n3=min n2 n3:=rfl
      rw[hrunc,hxv,hyv]
      simp[Go.Builtin.copy_,Go.run_underlying hu,Go.sizeOf,ze5 hinf,Go.Builtin.lenOf,Go.Builtin.firstCells,Go.goInt,hmm,hload,hrun]
     ·cases hp
    ·cases hp
   ·cases hp
 ·cases hp
theorem z0hk (hR:Rel tab β h.get w) (hE:EnvR tab β env a) {t:TypeId}{x:Operand}{x':Opd}{lo hi:Option Operand}{lo' hi':Option Opd} (ho:o.op=.slice t x lo hi none) (hu:P.underlying t=some .string)
  (hx:cOpd tab x=some x') (h1:OptR tab β (lo'.map (opd env)) (lo.map a.eval)) (h2:OptR tab β (hi'.map (opd env)) (hi.map a.eval))
  (hs:sd M (.strSlice x' lo' hi') env h=some (v,h')):Gw P o a w (Post tab β h w v h') Q:=by
 simp only[sd,step,Option.bind_eq_some_iff,Option.some.injEq,Prod.mk.injEq] at hs
 obtain⟨u,hsl,rfl,rfl⟩:=hs
 unfold z066 at hsl
 split at hsl
 ·rename_i s e1
  split at hsl
  ·cases hsl
  ·rename_i hh q2
   split at hsl
   ·cases hsl
   ·rename_i l q3
    cases hsl
    have hxv:=zzn e1 (zu hE hx)
    have hb:=ztq (P:=P) (w:=w) (isSl:=false) (len:=s.size) (cap:=s.size) (mx:=none) (cmx:=none) h1 h2 trivial (fun q=>by cases q) rfl q2 q3
    refine z03 (cv:=.string (s.extract l hh)) (w':=w) ?_ (z0b rfl hR)
    simp[Go.execOp,ho,hxv,Go.Instr.sliceAt,Go.run_underlying hu,Go.Instr.slice,hb]
 ·cases hsl
def zw7 (c:Ck) (d:TypeDesc):Prop:=match c,d with
 | .bool,.bool=>True
 | .int,.int _=>True
 | .str,.string=>True
 | _,_=>False
theorem z03k {t:TypeId}{c:Ck} (hk:z014 P t=some c):∃d,P.underlying t=some d/\zw7 c d:=by
 unfold z014 at hk
 split at hk <;> first | (rename_i hd; cases hk; exact⟨_,hd,trivial⟩) | cases hk
theorem zcc {t:TypeId}{d:TypeDesc}{c:Ck} (hu:P.underlying t=some d) (hk:zw7 c d) (b:Bool) (n:Nat) (k:Value):(Go.Instr.checkKey b (n+1) t k).run P w=.ok () w:=by
 cases c <;> cases d <;> simp[zw7] at hk <;> simp[Go.Instr.checkKey,Go.run_underlying hu]
def EntR (tab:Tab) (β:Nat->Option Loc) (es:List (V × V)) (ents:List Go.MapEntry):Prop:=RVs tab β (es.map (·.1)) (ents.map (·.key))/\RVs tab β (es.map (·.2)) (ents.map (·.val))
theorem EntR.cons_iff {k v:V}{es:List (V × V)}{e:Go.MapEntry}{ents:List Go.MapEntry}:EntR tab β ((k,v) :: es) (e :: ents)<->RV tab β k e.key/\RV tab β v e.val/\EntR tab β es ents:=by
 simp only[EntR,List.map_cons,RVs.cons_iff]
 constructor
 ·rintro⟨⟨a,b⟩,c,d⟩; exact⟨a,c,b,d⟩
 ·rintro⟨a,c,b,d⟩; exact⟨⟨a,b⟩,c,d⟩
theorem EntR.length {es:List (V × V)}{ents:List Go.MapEntry} (h:EntR tab β es ents):es.length=ents.length:=by simpa using RVs.length h.1
theorem z0hz {c:Ck}{d:TypeDesc} (hk:zw7 c d) {x y:V}{p q:Value}{r:Bool} (hx:RV tab β x p) (hy:RV tab β y q) (he:z79 c x y=some r):Go.Instr.sameNow d p q=some r:=by
 cases c with
 | bool =>
  obtain⟨a,b,rfl,rfl,rfl⟩:=z027 he
  cases hx; cases hy
  cases d <;> simp[zw7] at hk
  rfl
 | int =>
  obtain⟨k,a,b,rfl,rfl,rfl⟩:=z03i he
  cases hx; cases hy
  cases d <;> simp[zw7] at hk
  simp[Go.Instr.sameNow]
  rfl
 | str =>
  obtain⟨a,b,rfl,rfl,rfl⟩:=z037 he
  cases hx; cases hy
  cases d <;> simp[zw7] at hk
  simp[Go.Instr.sameNow,Go.beq_toListBytes]
def zvu (c:Ck) (k:V):List (V × V)->Nat->Option (Option Nat)
 | [],_=>some none
 | (a,_) :: l,i=>match z79 c k a with
  | some true=>some (some i)
  | some false=>zvu c k l (i+1)
  | none=>none
theorem zvs {c:Ck}{d:TypeDesc} (hk:zw7 c d) {x:V}{p:Value} (hx:RV tab β x p):∀ {es:List (V × V)}{ents:List Go.MapEntry} (i:Nat) {r:Option Nat},EntR tab β es ents->zvu c x es i=some r ->
  ∃z,Go.Instr.findNow d p ents i=some z/\z.map (·.1)=r/\∀j v,z=some (j,v)->ents[j-i]?.map (·.val)=some v/\i<=j:=by
 intro es
 induction es with
 | nil =>
  intro ents i r he hp
  have:ents=[]:=List.eq_nil_of_length_eq_zero (by have:=he.length; simpa using this.symm)
  subst this
  simp[zvu] at hp; subst hp
  exact⟨none,rfl,rfl,fun j v q=>by cases q⟩
 | cons e es ih =>
  intro ents i r he hp
  obtain⟨a,b⟩:=e
  cases ents with
  | nil=>have:=he.length; simp at this
  | cons en ents =>
   rw[EntR.cons_iff] at he
   obtain⟨h1,h2,h3⟩:=he
   simp only[zvu] at hp
   cases hq:z79 c x a with
   | none=>rw[hq] at hp; cases hp
   | some r' =>
    rw[hq] at hp
    have hn:=z0hz hk hx h1 hq
    cases r' with
    | true =>
     cases hp
     exact⟨some (i,en.val),by simp[Go.Instr.findNow,hn],rfl,fun j v q=>by cases q; simp⟩
    | false =>
     obtain⟨z,hz,hz2,hz3⟩:=ih (i+1) h3 hp
     refine⟨z,by simp only[Go.Instr.findNow,hn]; exact hz,hz2,fun j v q => ?_⟩
     obtain⟨q1,q2⟩:=hz3 j v q
     refine⟨?_,by omega⟩
     rw[<-q1]
     have:j-i=(j-(i+1))+1:=by omega
     rw[this,List.getElem?_cons_succ]
theorem z0dh {c:Ck}{k:V}:∀ {es:List (V × V)}{r:Option V} (i:Nat),findKey c k es=some r->∃z,zvu c k es i=some z/\(z=none->r=none)/\∀j,z=some j->(es[j-i]?).map (·.2)=r/\i<=j/\r≠none:=by
 intro es
 induction es with
 | nil=>intro r i h; simp[findKey] at h; subst h; exact⟨none,rfl,fun _=>rfl,fun j q=>by cases q⟩
 | cons e es ih =>
  intro r i h
  obtain⟨a,b⟩:=e
  simp only[findKey] at h
  simp only[zvu]
  cases hq:z79 c k a with
  | none=>rw[hq] at h; cases h
  | some r' =>
   rw[hq] at h
   cases r' with
   | true=>cases h; exact⟨some i,rfl,fun q=>(by cases q),fun j q=>by cases q; simp⟩
   | false =>
    obtain⟨z,hz,h1,h2⟩:=ih (i+1) h
    refine⟨z,hz,h1,fun j q => ?_⟩
    obtain⟨q1,q2,q3⟩:=h2 j q
    refine⟨?_,by omega,q3⟩
    rw[<-q1]
    have:j-i=(j-(i+1))+1:=by omega
    rw[this,List.getElem?_cons_succ]
theorem z01x (hR:Rel tab β h.get w) {x:V}{c:Value}{es:List (V × V)} (hx:RV tab β x c) (he:h.entries x=some es) :
  (c=.map none/\es=[])\/∃B ents clock,c=.map (some B)/\w.heap[B]?=some (.map ents clock)/\EntR tab β es ents.toList:=by
 unfold H.entries at he
 split at he
 ·cases he; exact .inl ⟨hx,rfl⟩
 ·rename_i r
  split at he
  ·rename_i es' hg
   cases he
   obtain⟨l,hl,rfl⟩:=hx
   obtain⟨l',hl',hB⟩:=hR.blk r _ hg
   rw[hl] at hl'; cases hl'
   obtain⟨ents,clock,hm,h1,h2⟩:=hB
   exact .inr ⟨_,ents,clock,rfl,hm,h1,h2⟩
  ·cases he
 ·cases he
theorem z0l5 (hR:Rel tab β h.get w) (hE:EnvR tab β env a) {c:Go.Call}{t k e:TypeId}{x:Operand}{x':Opd} (ho:o.op=.call c) (hcal:c.callee=.builtin .len) (hargs:c.args = #[x]) (htys:c.argTypes = #[t]) (hu:P.underlying t=some (.map k e))
  (hx:cOpd tab x=some x') (hs:sd M (.lenMap x') env h=some (v,h')):Gw P o a w (Post tab β h w v h') Q:=by
 simp only[sd,step,Option.bind_eq_some_iff,Option.some.injEq,Prod.mk.injEq] at hs
 obtain⟨es,hes,rfl,rfl⟩:=hs
 rcases z01x hR (zu hE hx) hes with ⟨hc,rfl⟩ | ⟨B,ents,clock,hc,hm,hr⟩
 ·refine z03 (cv:=.int .i64 0) (w':=w) ?_ (z0b rfl hR)
  simp[Go.execOp,ho,Go.resolve,hcal,hargs,htys,hc,Go.invoke,Go.builtin,Go.Builtin.len_,Go.run_underlying hu,Go.goInt]
 ·refine z03 (cv:=.int .i64 es.length) (w':=w) ?_ (z0b rfl hR)
  have:es.length=ents.size:=by have:=hr.length; simpa using this
  simp[Go.execOp,ho,Go.resolve,hcal,hargs,htys,hc,Go.invoke,Go.builtin,Go.Builtin.len_,Go.run_underlying hu,Go.goInt,Go.getObj,Sem.run,hm,this]
theorem z0mp (hR:Rel tab β h.get w) (hF:zi6 β h h') {t:TypeId} (ho:o.op=.makeMap t none) (hs:sd M .mkMap env h=some (v,h')):Gw P o a w (Post tab β h w v h') Q:=by
 simp only[sd,step,Option.some.injEq,Prod.mk.injEq] at hs
 obtain⟨rfl,rfl⟩:=hs
 have hf:=hF h.next (Nat.le_refl _) (by simp)
 obtain⟨g1,g2⟩:=z03n hR hf (.map []) (.map #[] 0) ⟨w.heap.size,0,0,0⟩ rfl rfl ⟨#[],0,by simp,rfl,rfl⟩
 refine z03 (cv:=.map (some w.heap.size)) ?_ ⟨_,⟨_,zga _ _ _,rfl⟩,g1,g2⟩
 simp[Go.execOp,ho,Go.Instr.makeMap]
theorem z0n1 (hR:Rel tab β h.get w) (hE:EnvR tab β env a) {op:Go.BinOp}{xt yt kt et:TypeId}{x y:Operand}{x' y':Opd}{neg:Bool} (ho:o.op=.binOp op xt x y yt) (hx:cOpd tab x=some x') (hy:cOpd tab y=some y')
  (hu:P.underlying xt=some (.map kt et)) (hop:(op=.eql/\neg=false)\/(op=.neq/\neg=true)) (hs:sd M (.eq neg .map x' y') env h=some (v,h')):Gw P o a w (Post tab β h w v h') Q:=by
 simp only[sd,step,Option.bind_eq_some_iff,Option.some.injEq,Prod.mk.injEq] at hs
 obtain⟨r,hr,hv,hh⟩:=hs
 simp only[eqV] at hr
 unfold z0ll at hr
 have hxr:=zu hE hx
 have hyr:=zu hE hy
 have go:∀p q,a.eval x=.map p->a.eval y=.map q->(p=none\/q=none)->r=(p.isNone && q.isNone)->Gw P o a w (Post tab β h w v h') Q:=by
  intro p q hp hq hn hrr
  refine z02k hR (op:=op) (neg:=neg) ho hop ?_ ?_ ?_ ?_ ?_ ?_ hv.symm hh.symm
  ·rw[hp]; cases op <;> rfl
  all_goals rw[hp]
  ·simp
  ·simp
  ·simp
  ·simp
  ·rw[hq,hrr]
   cases p with
   | none=>exact(show ∀d,(Go.Op.equalIn (d+1) _ _ _).run P w=_ from fun d=>by simp[Go.Op.equalIn,Go.run_underlying hu]) 9999
   | some p =>
    have:q=none:=by rcases hn with hn | hn <;> simp_all
    subst this
    exact(show ∀d,(Go.Op.equalIn (d+1) _ _ _).run P w=_ from fun d=>by simp[Go.Op.equalIn,Go.run_underlying hu]) 9999
 split at hr
 ·rename_i e1 e2; cases hr; rw[e1] at hxr; rw[e2] at hyr
  exact go none none hxr hyr (.inl rfl) rfl
 ·rename_i B e1 e2; cases hr; rw[e1] at hxr; rw[e2] at hyr
  obtain⟨l,_,hyr⟩:=hyr
  exact go none _ hxr hyr (.inl rfl) rfl
 ·rename_i B e1 e2; cases hr; rw[e1] at hxr; rw[e2] at hyr
  obtain⟨l,_,hxr⟩:=hxr
  exact go _ none hxr hyr (.inr rfl) rfl
 ·cases hr
theorem z042:∀ {l:List (Nat × Nat)}{k f:Nat},zbg l k=some f->(k,f)∈l
 | [],k,f,h=>by simp[zbg] at h
 | (a,b) :: l,k,f,h=>by
  simp only[zbg] at h
  split at h
  ·rename_i hb; rw[Nat.eq_of_beq_eq_true hb] at *; cases h; simp
  ·exact List.mem_cons_of_mem _ (z042 h)
theorem z0af {fn:Go.Func} (hn:fn.name = "maps.clone") (ho:fn.origin = ""):Go.Extern.findNext fn=none:=by
 have e1:List.lookup "maps.clone" Go.Extern.allNextRows=none:=by kernel_rfl
 have e2:List.lookup "" Go.Extern.allNextRows=none:=by kernel_rfl
 unfold Go.Extern.findNext
 simp only[hn,ho,e1,e2]
 rfl
theorem z0gz {fn:Go.Func} (hn:fn.name = "maps.clone"):Go.Extern.find fn=some Go.Extern.MapsClone.clone:=by
 have e1:List.lookup "maps.clone" Go.Extern.allGenericRows=none:=by kernel_rfl
 have e2:List.lookup "maps.clone" Go.Extern.allTypedRows=none:=by kernel_rfl
 have e3:List.lookup "maps.clone" Go.Extern.allRows=some Go.Extern.MapsClone.clone:=by kernel_rfl
 unfold Go.Extern.find
 simp only[hn,e1,e2,e3]
 rfl
theorem z0c2 {k:Nat} (hk:z07g P k=true) {args:Array Value}{cv:Value}{w':World} (hrun:(Go.Extern.MapsClone.clone args).run P w=.ok cv w'):(Go.callFunc k args).run P w=.ok (.value cv) w':=by
 unfold z07g at hk
 cases hf:P.funcs[k]? with
 | none=>simp[hf] at hk
 | some fn =>
  simp only[hf,Bool.and_eq_true,beq_iff_eq] at hk
  obtain⟨⟨hb,hn⟩,ho⟩:=hk
  have hng:(fn.name == "runtime.NumGoroutine")=false:=by rw[hn]; rfl
  unfold Go.callFunc
  have hb':fn.body=none:=Option.isNone_iff_eq_none.mp hb
  have hn':¬fn.name = "runtime.NumGoroutine" := by rw[hn]; decide
  have hm:∀ {α:Type} (m:Go.Mark) (k:Sem α),(Sem.mark m k).run P w=k.run P w:=fun _ _=>rfl
  simp[hf,hb',hn',z0af hn ho,z0gz hn,Go.mark,hm,hrun]
theorem z0kp (hR:Rel tab β h.get w) (hF:zi6 β h h') (hE:EnvR tab β env a) {c:Go.Call}{k:Nat}{x':Opd} (ho:o.op=.call c) (hcal:c.callee=.value (.func k)) (hk:z07g P k=true) (ha:zo1 tab c.args.toList=some [x'])
  (hs:sd M (.cloneM x') env h=some (v,h')):Gw P o a w (Post tab β h w v h') Q:=by
 simp only[sd,step,Option.bind_eq_some_iff,Option.some.injEq,Prod.mk.injEq] at hs
 obtain⟨⟨v0,h0⟩,hp,rfl,rfl⟩:=hs
 have hargs:=zzf hE ha
 unfold H.cloneM at hp
 split at hp
 ·rename_i t r e1
  split at hp
  ·rename_i es hes
   cases hp
   simp only[List.map_cons,List.map_nil,e1] at hargs
   cases hl:c.args.toList with
   | nil=>rw[hl] at hargs; simp[RVs] at hargs
   | cons x rest =>
    cases rest with
    | cons y rest=>rw[hl] at hargs; simp[RVs] at hargs
    | nil =>
     rw[hl] at hargs
     simp only[List.map_cons,List.map_nil,RVs.cons_iff] at hargs
     obtain⟨T,y,hxv,hT,hy⟩:=hargs.1
     obtain⟨l,hl',rfl⟩:=hy
     obtain⟨l2,hl2,hB⟩:=hR.blk r _ hes
     rw[hl'] at hl2; cases hl2
     obtain⟨ents,clock,hm,h1,h2⟩:=hB
     have hf:=hF h.next (Nat.le_refl _) (by simp)
     have he:=z029 (l:=⟨w.heap.size,0,0,0⟩) hf
     obtain⟨g1,g2⟩:=z03n hR hf (.map es) (.map ents clock) ⟨w.heap.size,0,0,0⟩ rfl rfl ⟨ents,clock,by simp,RVs.mono he _ _ h1,RVs.mono he _ _ h2⟩
     refine z03 (cv:=.iface T (.map (some w.heap.size))) ?_ ⟨_,⟨T,_,rfl,hT,⟨_,zga _ _ _,rfl⟩⟩,g1,g2⟩
     have hargs':c.args = #[x]:=by rw[<-Array.toArray_toList (xs:=c.args),hl]
     have hcl:(Go.Extern.MapsClone.clone #[.iface T (.map (some l.blk))]).run P w=.ok (.iface T (.map (some w.heap.size))) { w with heap:=w.heap.push (.map ents clock) }:=by
      have e:Go.Extern.MapsClone.clone #[.iface T (.map (some l.blk))]=(Go.getObj l.blk >>= fun o=>match o with
       | .map entries clock=>(Go.newObj (.map entries clock) >>= fun n=>pure (.iface T (.map (some n))))
       | _=>Go.stuck "maps.clone: a map expected"):=rfl
      rw[e]
      simp[Go.getObj,Sem.run,hm]
     simp only[Go.execOp,ho,Go.resolve,hcal,hargs',Go.Deferred.ofValue,Go.Act.eval,Sem.run_bind,Sem.run_pure,Go.Result.andThen_ok,Go.invoke]
     exact z0c2 hk (by simpa [hxv] using hcl)
  ·cases hp
 ·cases hp
theorem z0ni (hR:Rel tab β h.get w) (hE:EnvR tab β env a) {t t' xt:TypeId}{d:TypeDesc}{x:Operand}{x':Opd} (ho:o.op=.typeAssert x xt t false) (hu:P.underlying t=some d) (hd:∀ms,d≠.interface ms) (ht:zbg tab.ty t=some t') (hall:(tab.ty.all fun p=>!Nat.beq p.2 t' || Nat.beq p.1 t)=true) (hx:cOpd tab x=some x')
  (hs:sd M (.asrt t' x') env h=some (v,h')):Gw P o a w (Post tab β h w v h') Q:=by
 simp only[sd,step,Option.bind_eq_some_iff,Option.some.injEq,Prod.mk.injEq] at hs
 obtain⟨v0,hp,rfl,rfl⟩:=hs
 have hxr:=zu hE hx
 unfold z0hv at hp
 split at hp
 ·rename_i u y e1
  split at hp
  ·rename_i hut
   cases hp
   rw[e1] at hxr
   obtain⟨T,z,hxv,hT,hz⟩:=hxr
   have hTt:T=t:=by
    have hm:=z042 hT
    have:=List.all_eq_true.mp hall _ hm
    simp only[Bool.or_eq_true,Bool.not_eq_true',Nat.beq_eq_true_eq] at this
    rcases this with q | q
    ·rw[hut] at q; cases q
    ·exact Nat.eq_of_beq_eq_true q
   subst hTt
   refine z03 (cv:=z) (w':=w) ?_ (z0b hz hR)
   have:(Go.Instr.typeAssert (.iface T z) xt T false).run P w=.ok z w:=by
    unfold Go.Instr.typeAssert
    simp only[Go.Sem.run_bind,Go.run_underlying hu,Go.Result.andThen_ok]
    cases d <;> first | simp | exact absurd rfl (hd _)
   simp[Go.execOp,ho,hxv,this]
  ·cases hp
 ·cases hp
theorem z0l7 (hR:Rel tab β h.get w) (hE:EnvR tab β env a) {t k e:TypeId}{x y:Operand}{x' y':Opd}{c:Ck}{z:V}{ok:Bool} (ho:o.op=.lookup t x y ok) (hu:P.underlying t=some (.map k e)) (hk:z014 P k=some c) (hz:z06f P e=some z)
  (hx:cOpd tab x=some x') (hy:cOpd tab y=some y') (hs:sd M (.lookup c z ok x' y') env h=some (v,h')):Gw P o a w (Post tab β h w v h') Q:=by
 simp only[sd,step,Option.bind_eq_some_iff,Option.some.injEq,Prod.mk.injEq] at hs
 obtain⟨u,hl,rfl,rfl⟩:=hs
 obtain⟨d,hd,hkd⟩:=z03k hk
 obtain⟨zv,hzrun,hzc,_⟩:=z0et hz
 unfold H.look at hl
 split at hl
 ·cases hl
 split at hl
 ·cases hl
 rename_i es hes
 split at hl
 ·cases hl
 ·rename_i v0 hf
  cases hl
  obtain⟨zz,hz1,hz2,hz3⟩:=z0dh 0 hf
  rcases z01x hR (zu hE hx) hes with ⟨hc,rfl⟩ | ⟨B,ents,clock,hc,hm,hr⟩
  ·simp[findKey] at hf
  ·obtain⟨q,q1,q2,q3⟩:=zvs hkd (zu hE hy) 0 hr hz1
   cases zz with
   | none=>exact absurd (hz2 rfl) (by simp)
   | some j =>
    obtain⟨r1,_,_⟩:=hz3 j rfl
    cases q with
    | none=>simp at q2
    | some qq =>
     obtain⟨j',cv⟩:=qq
     simp at q2; subst q2
     obtain⟨s1,_⟩:=q3 j' cv rfl
     have hrel:RV tab β v0 cv:=by
      simp only[Nat.sub_zero] at r1 s1
      obtain⟨en,hen,rfl⟩:=Option.map_eq_some_iff.mp s1
      obtain⟨ee,hee,rfl⟩:=Option.map_eq_some_iff.mp r1
      obtain⟨c2,hc2,hr2⟩:=RVs.get hr.2 j' ee.2 (by simp[hee])
      simp[hen] at hc2; rw[hc2]; exact hr2
     cases ok with
     | true =>
      refine z03 (cv:=.tuple #[cv,.bool true]) (w':=w) ?_ (z0b ⟨_,rfl,RVs.cons hrel (RVs.cons rfl rfl)⟩ hR)
      simp[Go.execOp,ho,hc,Go.Instr.lookup,Go.run_underlying hu,Go.getObj,Sem.run,hm,zcc (P:=P) (w:=w) hd hkd _ 9999,Go.Instr.findKey,Go.run_underlying hd,q1]
     | false =>
      refine z03 (cv:=cv) (w':=w) ?_ (z0b hrel hR)
      simp[Go.execOp,ho,hc,Go.Instr.lookup,Go.run_underlying hu,Go.getObj,Sem.run,hm,zcc (P:=P) (w:=w) hd hkd _ 9999,Go.Instr.findKey,Go.run_underlying hd,q1]
 ·rename_i hf
  cases hl
  obtain⟨zz,hz1,hz2,hz3⟩:=z0dh 0 hf
  have hznone:zz=none:=by
   cases zz with
   | none=>rfl
   | some j=>exact absurd rfl (hz3 j rfl).2.2
  subst hznone
  have hzr:RV tab β z zv:=z0dd hzc
  have fin:(Go.Instr.lookup t (a.eval x) (a.eval y) ok).run P w=.ok (if ok then .tuple #[zv,.bool false] else zv) w->Gw P o a w (Post tab β h w (okd ok z false) h) Q:=by
   intro hrun
   cases ok with
   | true=>exact z03 (cv:=.tuple #[zv,.bool false]) (w':=w) (by simp[Go.execOp,ho,hrun]) (z0b ⟨_,rfl,RVs.cons hzr (RVs.cons rfl rfl)⟩ hR)
   | false=>exact z03 (cv:=zv) (w':=w) (by simp[Go.execOp,ho,hrun]) (z0b hzr hR)
  rcases z01x hR (zu hE hx) hes with ⟨hc,rfl⟩ | ⟨B,ents,clock,hc,hm,hr⟩
  ·refine fin ?_
   simp[hc,Go.Instr.lookup,Go.run_underlying hu,zcc (P:=P) (w:=w) hd hkd _ 9999,Go.Instr.findKey,Go.run_underlying hd,Go.Instr.findNow,hzrun]
  ·obtain⟨q,q1,q2,q3⟩:=zvs hkd (zu hE hy) 0 hr hz1
   have:q=none:=by cases q with
    | none=>rfl
    | some qq=>simp at q2
   subst this
   refine fin ?_
   simp[hc,Go.Instr.lookup,Go.run_underlying hu,Go.getObj,Sem.run,hm,zcc (P:=P) (w:=w) hd hkd _ 9999,Go.Instr.findKey,Go.run_underlying hd,q1,hzrun]
theorem z0lv {c:Ck}{k x:V}:∀ {es es':List (V × V)} (i:Nat),zpu c k x es=some es'->∃z,zvu c k es i=some z/\(z=none->es'=es ++ [(k,x)])/\∀j,z=some j->i<=j/\j-i<es.length/\es'=es.set (j-i) (k,x)/\∃a,(es[j-i]?).map (·.1)=some a/\z79 c k a=some true:=by
 intro es
 induction es with
 | nil=>intro es' i h; simp[zpu] at h; subst h; exact⟨none,rfl,fun _=>rfl,fun j q=>by cases q⟩
 | cons e es ih =>
  intro es' i h
  obtain⟨a,b⟩:=e
  simp only[zpu] at h
  simp only[zvu]
  cases hq:z79 c k a with
  | none=>rw[hq] at h; cases h
  | some r' =>
   rw[hq] at h
   cases r' with
   | true=>cases h; exact⟨some i,rfl,fun q=>(by cases q),fun j q=>by cases q; simp[hq]⟩
   | false =>
    simp only at h
    cases hq2:zpu c k x es with
    | none=>rw[hq2] at h; cases h
    | some l =>
     rw[hq2] at h; cases h
     obtain⟨z,hz,h1,h2⟩:=ih (i+1) hq2
     refine⟨z,hz,fun q=>by rw[h1 q]; rfl,fun j q => ?_⟩
     obtain⟨q1,q2,q3,q4⟩:=h2 j q
     have e1:j-i=(j-(i+1))+1:=by omega
     refine⟨by omega,by simp; omega,?_,?_⟩
     ·rw[e1,q3]; rfl
     ·rw[e1]; simpa using q4
theorem EntR.set {es:List (V × V)}{ents:List Go.MapEntry} (h:EntR tab β es ents) (i:Nat) {k x:V}{e:Go.MapEntry} (hk:RV tab β k e.key) (hx:RV tab β x e.val):EntR tab β (es.set i (k,x)) (ents.set i e):=by
 refine⟨?_,?_⟩
 ·rw[List.map_set,List.map_set]; exact RVs.set h.1 i hk
 ·rw[List.map_set,List.map_set]; exact RVs.set h.2 i hx
theorem EntR.snoc {es:List (V × V)}{ents:List Go.MapEntry} (h:EntR tab β es ents) {k x:V}{e:Go.MapEntry} (hk:RV tab β k e.key) (hx:RV tab β x e.val):EntR tab β (es ++ [(k,x)]) (ents ++ [e]):=by
 refine⟨?_,?_⟩
 ·rw[List.map_append,List.map_append]; exact RVs.append h.1 (RVs.cons hk rfl)
 ·rw[List.map_append,List.map_append]; exact RVs.append h.2 (RVs.cons hx rfl)
theorem z0fg {c:Ck}{x y:V}{p q:Value} (hx:RV tab β x p) (hy:RV tab β y q) (he:z79 c x y=some true) (n:Nat):Go.Instr.sameBits n q p=true:=by
 cases c with
 | bool=>obtain⟨a,b,rfl,rfl,hr⟩:=z027 he; cases hx; cases hy; cases n <;> simp[Go.Instr.sameBits] <;> simp at hr <;> exact hr.symm
 | int=>obtain⟨k,a,b,rfl,rfl,hr⟩:=z03i he; cases hx; cases hy; cases n <;> simp[Go.Instr.sameBits] <;> simp at hr <;> exact hr.symm
 | str =>
  obtain⟨a,b,rfl,rfl,hr⟩:=z037 he
  cases hx; cases hy
  have:(b == a)=true:=by rw[Go.beq_toListBytes]; simp at hr ⊢; exact hr.symm
  cases n <;> simp only[Go.Instr.sameBits,this]
theorem z03q (hR:Rel tab β h.get w) {r:Nat}{es es':List (V × V)}{l:Loc}{ents ents':Array Go.MapEntry}{cl cl':Nat} (hg:h.get r=some (.map es)) (hl:β r=some l) (hm:w.heap[l.blk]?=some (.map ents cl)) (he:EntR tab β es' ents'.toList) :
  Rel tab β (h.put r (some (.map es'))).get { w with heap:=w.heap.setIfInBounds l.blk (.map ents' cl') }/\Tr β β h (h.put r (some (.map es'))) w { w with heap:=w.heap.setIfInBounds l.blk (.map ents' cl') }:=by
 have hlt:=z0gf hm
 refine z0d6 hR hg rfl hl ⟨ents',cl',?_,he⟩ (fun B hB => ?_) (by simp) rfl rfl rfl
 ·simp[hlt]
 ·simp only[Array.getElem?_setIfInBounds]
  rw[if_neg (fun e=>hB e.symm)]
theorem z0la (hR:Rel tab β h.get w) (hE:EnvR tab β env a) {t k e:TypeId}{x y z:Operand}{x' y' z':Opd}{c:Ck} (ho:o.op=.mapUpdate t x y z) (hu:P.underlying t=some (.map k e)) (hk:z014 P k=some c)
  (hx:cOpd tab x=some x') (hy:cOpd tab y=some y') (hz:cOpd tab z=some z') (hs:sd M (.mapSet c x' y' z') env h=some (v,h')):Gw P o a w (Post tab β h w v h') Q:=by
 simp only[sd,step,Option.bind_eq_some_iff,Option.some.injEq,Prod.mk.injEq] at hs
 obtain⟨h1,hl,rfl,rfl⟩:=hs
 obtain⟨d,hd,hkd⟩:=z03k hk
 unfold H.mapSet at hl
 split at hl
 ·rename_i r e1 hik
  split at hl
  ·rename_i es hg
   split at hl
   ·rename_i es' hset
    cases hl
    have hxr:=zu hE hx
    rw[e1] at hxr
    obtain⟨l,hl,hxv⟩:=hxr
    obtain⟨l',hl',hB⟩:=hR.blk r _ hg
    rw[hl] at hl'; cases hl'
    obtain⟨ents,cl,hm,hr1,hr2⟩:=hB
    have hr:EntR tab β es ents.toList:=⟨hr1,hr2⟩
    have hyr:=zu hE hy
    have hzr:=zu hE hz
    obtain⟨pz,hp1,hp2,hp3⟩:=z0lv 0 hset
    obtain⟨q,q1,q2,q3⟩:=zvs hkd hyr 0 hr hp1
    cases pz with
    | none =>
     have hq:q=none:=by cases q with
      | none=>rfl
      | some qq=>simp at q2
     subst hq
     have:=hp2 rfl
     subst this
     obtain⟨g1,g2⟩:=z03q (ents':=ents.push { key:=a.eval y,val:=a.eval z,born:=cl }) (cl':=cl+1) hR hg hl hm (by rw[Array.toList_push]; exact hr.snoc hyr hzr)
     refine z0a2 ?_ ⟨β,RV.undef,g1,g2⟩
     simp[Go.execOp,ho,hxv,Go.Instr.mapUpdate,Go.run_underlying hu,Go.getObj,Go.setObj,Sem.run,hm,zcc (P:=P) (w:=w) hd hkd _ 9999,Go.Instr.findKey,Go.run_underlying hd,q1]
    | some j =>
     obtain⟨z1,z2,z3,ak,z4,z5⟩:=hp3 j rfl
     simp only[Nat.sub_zero] at z2 z3 z4
     cases q with
     | none=>simp at q2
     | some qq =>
      obtain⟨j',cv⟩:=qq
      simp at q2; subst q2
      subst z3
      have hjl:j'<ents.size:=by have:=hr.length; simp at this; omega
      have hold:RV tab β ak ents[j'].key:=by
       obtain⟨ee,hee,rfl⟩:=Option.map_eq_some_iff.mp z4
       obtain⟨c2,hc2,hr2⟩:=RVs.get hr.1 j' ee.1 (by simp[hee])
       simp[hjl] at hc2; rw[hc2]; exact hr2
      have hsb:=z0fg hyr hold z5 10000
      obtain⟨g1,g2⟩:=z03q (ents':=ents.modify j' fun e=>{ e with key:=a.eval y,val:=a.eval z }) (cl':=cl) hR hg hl hm (by
       have:(ents.modify j' fun e=>{ e with key:=a.eval y,val:=a.eval z }).toList=ents.toList.set j' { ents[j'] with key:=a.eval y,val:=a.eval z }:=by
        rw[Array.toList_modify]
        apply List.ext_getElem?
        intro i
        rw[List.getElem?_modify,List.getElem?_set]
        by_cases hi:j'=i
        ·subst hi; simp[hjl]
        ·simp[hi]
       rw[this]
       exact hr.set j' hyr hzr)
      refine z0a2 ?_ ⟨β,RV.undef,g1,g2⟩
      have hkk:((Option.map (fun x:Go.MapEntry=>x.key) ents[j']?).getD (a.eval y))=ents[j'].key:=by simp[hjl]
      simp[Go.execOp,ho,hxv,Go.Instr.mapUpdate,Go.run_underlying hu,Go.getObj,Go.setObj,Sem.run,hm,zcc (P:=P) (w:=w) hd hkd _ 9999,Go.Instr.findKey,Go.run_underlying hd,q1,Go.Instr.keyThatStays,hkk,hsb]
   ·cases hl
  ·cases hl
 ·cases hl
theorem z0lz {c:Ck}{k:V}:∀ {es es':List (V × V)} (i:Nat),zvz c k es=some es'->∃z,zvu c k es i=some z/\(z=none->es'=es)/\∀j,z=some j->i<=j/\j-i<es.length/\es'=es.eraseIdx (j-i):=by
 intro es
 induction es with
 | nil=>intro es' i h; simp[zvz] at h; subst h; exact⟨none,rfl,fun _=>rfl,fun j q=>by cases q⟩
 | cons e es ih =>
  intro es' i h
  obtain⟨a,b⟩:=e
  simp only[zvz] at h
  simp only[zvu]
  cases hq:z79 c k a with
  | none=>rw[hq] at h; cases h
  | some r' =>
   rw[hq] at h
   cases r' with
   | true=>cases h; exact⟨some i,rfl,fun q=>(by cases q),fun j q=>by cases q; simp⟩
   | false =>
    simp only at h
    cases hq2:zvz c k es with
    | none=>rw[hq2] at h; cases h
    | some l =>
     rw[hq2] at h; cases h
     obtain⟨z,hz,h1,h2⟩:=ih (i+1) hq2
     refine⟨z,hz,fun q=>by rw[h1 q],fun j q => ?_⟩
     obtain⟨q1,q2,q3⟩:=h2 j q
     have e1:j-i=(j-(i+1))+1:=by omega
     exact⟨by omega,by simp; omega,by rw[e1,q3]; rfl⟩
theorem z017 {α γ:Type} (f:α->γ) (l:List α) (i:Nat):(l.eraseIdx i).map f=(l.map f).eraseIdx i:=by
 rw[List.eraseIdx_eq_take_drop_succ,List.eraseIdx_eq_take_drop_succ]
 simp[List.map_take,List.map_drop]
theorem RVs.erase {as:List V}{cs:List Value} (h:RVs tab β as cs) (i:Nat):RVs tab β (as.eraseIdx i) (cs.eraseIdx i):=by
 rw[List.eraseIdx_eq_take_drop_succ,List.eraseIdx_eq_take_drop_succ]
 exact RVs.append (RVs.take h i) (RVs.drop h (i+1))
theorem z0k8 (hR:Rel tab β h.get w) (hE:EnvR tab β env a) {cc:Go.Call}{t u k e:TypeId}{x y:Operand}{x' y':Opd}{c:Ck} (ho:o.op=.call cc) (hcal:cc.callee=.builtin .delete) (hargs:cc.args = #[x,y]) (htys:cc.argTypes = #[t,u]) (hu:P.underlying t=some (.map k e)) (hk:z014 P k=some c)
  (hx:cOpd tab x=some x') (hy:cOpd tab y=some y') (hs:sd M (.mapDel c x' y') env h=some (v,h')):Gw P o a w (Post tab β h w v h') Q:=by
 simp only[sd,step,Option.bind_eq_some_iff,Option.some.injEq,Prod.mk.injEq] at hs
 obtain⟨h1,hl,rfl,rfl⟩:=hs
 obtain⟨d,hd,hkd⟩:=z03k hk
 have hxr:=zu hE hx
 unfold H.mapDel at hl
 split at hl
 ·rename_i e1 hik
  cases hl
  rw[e1] at hxr
  have hxv:a.eval x=.map none:=hxr
  refine z03 (cv:=.tuple #[]) (w':=w) ?_ (z0b RV.undef hR)
  simp[Go.execOp,ho,Go.resolve,hcal,hargs,htys,hxv,Go.invoke,Go.builtin,Go.Builtin.delete_,Go.run_underlying hu,zcc (P:=P) (w:=w) hd hkd _ 9999]
 ·rename_i r e1 hik
  split at hl
  ·rename_i es hg
   split at hl
   ·rename_i es' hset
    cases hl
    rw[e1] at hxr
    obtain⟨l,hl,hxv⟩:=hxr
    obtain⟨l',hl',hB⟩:=hR.blk r _ hg
    rw[hl] at hl'; cases hl'
    obtain⟨ents,cl,hm,hr1,hr2⟩:=hB
    have hr:EntR tab β es ents.toList:=⟨hr1,hr2⟩
    have hyr:=zu hE hy
    obtain⟨pz,hp1,hp2,hp3⟩:=z0lz 0 hset
    obtain⟨q,q1,q2,q3⟩:=zvs hkd hyr 0 hr hp1
    cases pz with
    | none =>
     have hq:q=none:=by cases q with
      | none=>rfl
      | some qq=>simp at q2
     subst hq
     have:=hp2 rfl
     subst this
     obtain⟨g1,g2⟩:=z03q (ents':=ents) (cl':=cl) hR hg hl hm hr
     refine z03 (cv:=.tuple #[]) ?_ ⟨β,RV.undef,g1,g2⟩
     simp[Go.execOp,ho,Go.resolve,hcal,hargs,htys,hxv,Go.invoke,Go.builtin,Go.Builtin.delete_,Go.run_underlying hu,Go.getObj,Go.setObj,Sem.run,hm,zcc (P:=P) (w:=w) hd hkd _ 9999,Go.Instr.findKey,Go.run_underlying hd,q1]
    | some j =>
     obtain⟨z1,z2,z3⟩:=hp3 j rfl
     simp only[Nat.sub_zero] at z2 z3
     cases q with
     | none=>simp at q2
     | some qq =>
      obtain⟨j',cv⟩:=qq
      simp at q2; subst q2
      subst z3
      have hjl:j'<ents.size:=by have:=hr.length; simp at this; omega
      obtain⟨g1,g2⟩:=z03q (es':=es.eraseIdx j') (ents':=ents.eraseIdxIfInBounds j') (cl':=cl) hR hg hl hm (by
       have:(ents.eraseIdxIfInBounds j').toList=ents.toList.eraseIdx j':=by
        rw[Array.eraseIdxIfInBounds,dif_pos hjl,Array.toList_eraseIdx]
       rw[this]
       refine⟨?_,?_⟩
       ·rw[z017,z017]; exact RVs.erase hr.1 j'
       ·rw[z017,z017]; exact RVs.erase hr.2 j')
      refine z03 (cv:=.tuple #[]) ?_ ⟨β,RV.undef,g1,g2⟩
      simp[Go.execOp,ho,Go.resolve,hcal,hargs,htys,hxv,Go.invoke,Go.builtin,Go.Builtin.delete_,Go.run_underlying hu,Go.getObj,Go.setObj,Sem.run,hm,zcc (P:=P) (w:=w) hd hkd _ 9999,Go.Instr.findKey,Go.run_underlying hd,q1]
   ·cases hl
  ·cases hl
 ·cases hl
end
end Wm
