/- Each operation of my machine, as the model carries it out: memory, more. -/
import Derived.Test.YthkimcdeejjmbaaWmStepE
set_option linter.all false
namespace Wm
open Go (Value Addr World Obj Program IntKind TypeId Oper Operand Act Exit Sem TypeDesc)
section
variable {P:Program}{tab:Tab}{β:Nat->Option Loc}{h h':H}{w:World}{env:List V}{a:Act}{o:Oper}{v:V}{Q:Exit->Act->World->Prop}{M:Env}
theorem z0hd (fs:Array Go.Field) (hfs:∀f∈fs.toList,∃d,P.info? f.type=some d) (w:World) :
  ((fs.mapM fun f=>do pure (f.offset,<-Go.sizeOf f.type):Sem (Array (Nat × Nat)))).run P w=.ok (fs.map fun f=>(f.offset,P.cellsOf f.type)) w:=by
 rw[Array.mapM_eq_mapM_toList]
 have:∀(l:List Go.Field),(∀f∈l,∃d,P.info? f.type=some d)->(l.mapM fun f=>(do pure (f.offset,<-Go.sizeOf f.type):Sem (Nat × Nat))).run P w=.ok (l.map fun f=>(f.offset,P.cellsOf f.type)) w:=by
  intro l
  induction l with
  | nil=>intro _; rfl
  | cons f l ih =>
   intro hl
   obtain⟨i,hi⟩:=hl f (by simp)
   have hsz:(Go.sizeOf f.type).run P w=.ok (P.cellsOf f.type) w:=by simp[Go.sizeOf,ze5 hi,Program.cellsOf,hi]
   simp only[List.mapM_cons,Sem.run_bind,ih (fun g hg=>hl g (by simp[hg])),hsz,Go.Result.andThen_ok,Sem.run_pure,List.map_cons]
 simp only[Sem.run_map,this fs.toList hfs,Go.Result.andThen_ok]
 congr 1
 apply Array.ext'
 simp
theorem z0ms (hR:Rel tab β h.get w) (hE:EnvR tab β env a) {t:TypeId}{fs:Array Go.Field}{parts:Array (Nat × Operand)}{parts':List (Nat × Nat × Opd)}{z:List V} (ho:o.op=.build t parts) (hu:P.underlying t=some (.struct fs))
  (hfs:∀f∈fs.toList,∃d,P.info? f.type=some d) (hz:zeroCells P t=some z) (hp:zwo tab (fun i=>fs[i]?.map fun f=>(f.offset,P.cellsOf f.type)) parts.toList=some parts') (hs:sd M (.build z parts') env h=some (v,h')):Gw P o a w (Post tab β h w v h') Q:=by
 simp only[sd,step,Option.bind_eq_some_iff,Option.some.injEq,Prod.mk.injEq] at hs
 obtain⟨cs,hcs,rfl,rfl⟩:=hs
 obtain⟨zv,hrun,hcc,_⟩:=zim hz tab β
 obtain⟨c',hc',hr'⟩:=z08h hE hp hcc hcs
 refine z03 (cv:=.agg c') (w':=w) ?_ (z0b ⟨c',rfl,hr'⟩ hR)
 have hpl:(fun (i:Nat)=>(fs.map fun (f:Go.Field)=>(f.offset,P.cellsOf f.type))[i]?)=(fun (i:Nat)=>fs[i]?.map fun (f:Go.Field)=>(f.offset,P.cellsOf f.type)):=by
  funext i; simp
 have hparts:(Array.map (fun x:Nat × Operand=>(x.1,a.eval x.2)) parts).toList=parts.toList.map fun p=>(p.1,a.eval p.2):=by simp
 simp only[Go.execOp,ho,Go.Instr.build,Sem.run_bind,hrun,Go.Result.andThen_ok,Go.run_underlying hu,z0hd fs hfs,hpl,hparts,hc',Sem.run_pure]
theorem z0hf (hR:Rel tab β h.get w) (hE:EnvR tab β env a) {t e:TypeId}{n:Nat}{parts:Array (Nat × Operand)}{parts':List (Nat × Nat × Opd)}{z:List V}{inf:Go.TypeInfo} (ho:o.op=.build t parts) (hu:P.underlying t=some (.array n e))
  (hinf:P.info? e=some inf) (hz:zeroCells P t=some z) (hp:zwo tab (fun i=>some (i * P.cellsOf e,P.cellsOf e)) parts.toList=some parts') (hs:sd M (.build z parts') env h=some (v,h')):Gw P o a w (Post tab β h w v h') Q:=by
 simp only[sd,step,Option.bind_eq_some_iff,Option.some.injEq,Prod.mk.injEq] at hs
 obtain⟨cs,hcs,rfl,rfl⟩:=hs
 obtain⟨zv,hrun,hcc,_⟩:=zim hz tab β
 obtain⟨c',hc',hr'⟩:=z08h hE hp hcc hcs
 refine z03 (cv:=.agg c') (w':=w) ?_ (z0b ⟨c',rfl,hr'⟩ hR)
 have hparts:(Array.map (fun x:Nat × Operand=>(x.1,a.eval x.2)) parts).toList=parts.toList.map fun p=>(p.1,a.eval p.2):=by simp
 have hsz:(Go.sizeOf e).run P w=.ok (P.cellsOf e) w:=by simp[Go.sizeOf,ze5 hinf,Program.cellsOf,hinf]
 simp only[Go.execOp,ho,Go.Instr.build,Sem.run_bind,hrun,Go.Result.andThen_ok,Go.run_underlying hu,hsz,hparts,hc',Sem.run_pure]
theorem z07r (z:List V) (n:Nat):(repl z n).length=n * z.length:=by
 induction n with
 | zero=>simp[repl]
 | succ n ih=>simp[repl,ih,Nat.succ_mul,Nat.add_comm]
theorem z0da (z:List V):∀(n i:Nat),i<n * z.length->(repl z n)[i]?=z[i % z.length]?
 | 0,i,h=>by simp at h
 | n+1,i,h=>by
  rw[repl,List.getElem?_append]
  by_cases hi:i<z.length
  ·rw[if_pos hi,Nat.mod_eq_of_lt hi]
  ·rw[if_neg hi,z0da z n _ (by rw[Nat.add_mul,Nat.one_mul] at h; omega)]
   congr 1
   exact(Nat.mod_eq_sub_mod (by omega)).symm
theorem z0e1 {z:List V}{zc:Array Value} (hz:RVs tab β z zc.toList) (n k:Nat) (hk:zc.size=k) (hk0:0<k) :
  RVs tab β (repl z n) ((Array.range (n * k)).map (zc[· % zc.size]!)).toList:=by
 have hl:z.length=zc.size:=by have:=RVs.length hz; simpa using this
 refine RVs.of_get (by rw[z07r]; simp[hl,hk]) fun i u c hu hc => ?_
 have hi:i<n * k:=by
  rcases Nat.lt_or_ge i (n * k) with h | h
  ·exact h
  ·rw[List.getElem?_eq_none (by rw[z07r,hl,hk]; exact h)] at hu; cases hu
 rw[z0da z n i (by rw[hl,hk]; exact hi),hl,hk] at hu
 obtain⟨c',hc',hr⟩:=RVs.get hz _ u hu
 have:c=c':=by
  have hm:i % k<zc.size:=by rw[hk]; exact Nat.mod_lt _ hk0
  simp only[Array.toList_map,List.getElem?_map,Array.toList_range,List.getElem?_range hi,Option.map_some,Option.some.injEq] at hc
  rw[<-hc,hk,getElem!_pos zc (i % k) hm]
  have:zc.toList[i % k]?=some zc[i % k]:=by simp[hm]
  rw[this] at hc'; cases hc'; rfl
 rw[this]; exact hr
theorem z0jp (hR:Rel tab β h.get w) (hF:zi6 β h h') (hE:EnvR tab β env a) {t e:TypeId}{len:Nat}{parts:Array (Nat × Operand)}{parts':List (Nat × Nat × Opd)}{z:List V} (ho:o.op=.buildSlice t len parts) (hu:P.underlying t=some (.slice e))
  (hsmall:len * P.cellsOf e<=1000) (hz:zeroCells P e=some z) (hp:zwo tab (fun i=>some (i * P.cellsOf e,P.cellsOf e)) parts.toList=some parts') (hs:sd M (.buildSl (P.cellsOf e) len z parts') env h=some (v,h')):Gw P o a w (Post tab β h w v h') Q:=by
 simp only[sd,step] at hs
 split at hs
 ·rename_i hb
  simp only[Bool.and_eq_true,decide_eq_true_eq] at hb
  have hzl:z.length=P.cellsOf e:=Nat.eq_of_beq_eq_true hb.1
  simp only[Option.bind_eq_some_iff,Option.some.injEq,Prod.mk.injEq] at hs
  obtain⟨cs,hcs,rfl,rfl⟩:=hs
  obtain⟨zv,hrun,hcc,inf,hinf⟩:=zim hz tab β
  have hzs:zv.cells.size=P.cellsOf e:=by have:=RVs.length hcc; simp at this; omega
  have hsz:(Go.sizeOf e).run P w=.ok (P.cellsOf e) w:=by simp[Go.sizeOf,ze5 hinf,Program.cellsOf,hinf]
  obtain⟨c',hc',hr'⟩:=z08h hE hp (z0e1 hcc len _ hzs hb.2) hcs
  obtain⟨hrel,htr⟩:=z03f hR (hF _ (Nat.le_refl _) (by simp)) hr' e .rw (.inl rfl) 0 (fun z hz=>by cases hz)
  refine z03 (cv:=.slice (some ⟨w.heap.size,0,none⟩) len len) ?_ ⟨_,⟨_,zga _ _ _,by simp⟩,hrel,htr⟩
  have hparts:(Array.map (fun x:Nat × Operand=>(x.1,a.eval x.2)) parts).toList=parts.toList.map fun p=>(p.1,a.eval p.2):=by simp
  have hno:¬(len * P.cellsOf e > 2 ^ 24):=by omega
  by_cases h0:len * P.cellsOf e=0
  ·have hmap:∀f:Nat->Value,(Array.range (len * P.cellsOf e)).map f = #[]:=by intro f; rw[h0]; simp[show Array.range 0 = #[] from rfl]
   rw[hmap] at hc'
   simp only[Go.execOp,ho,Go.Instr.buildSlice,Sem.run_bind,Go.run_underlying hu,Go.Result.andThen_ok,hsz,Sem.run_ite,if_neg hno,if_pos h0,Sem.run_pure,hparts,hmap,hc',Go.newRow,Go.run_newObj]
  ·simp only[Go.execOp,ho,Go.Instr.buildSlice,Sem.run_bind,Go.run_underlying hu,Go.Result.andThen_ok,hsz,Sem.run_ite,if_neg hno,if_neg h0,hrun,Sem.run_pure,hparts,hc',Go.newRow,Go.run_newObj]
 ·cases hs
theorem z0g2 (hR:Rel tab β h.get w) {x u:V}{c:Value} (hx:RV tab β x c) (hl:h.ld1 x=some u):∃B O cv,c=.pointer (some ⟨B,O,none⟩)/\w.cell? ⟨B,O,none⟩=some cv/\RV tab β u cv/\u.one=true:=by
 unfold H.ld1 at hl
 split at hl
 ·rename_i b off
  split at hl
  ·rename_i cs k hg
   split at hl
   ·rename_i u' hu
    split at hl
    ·rename_i hone
     cases hl
     obtain⟨l,hl,rfl⟩:=hx
     obtain⟨l',hl',hB⟩:=hR.blk b _ hg
     rw[hl] at hl'; cases hl'
     obtain⟨cv,hcv,hr⟩:=hB.2.1 off u hu
     exact⟨_,_,cv,rfl,hcv,hr,hone⟩
    ·cases hl
   ·cases hl
  ·cases hl
 ·cases hl
theorem z078 (hR:Rel tab β h.get w) {b off n:Nat}{l:Loc}{cs:List V} (hb:β b=some l) (hl:h.ldc b off n=some cs):cs.length=n/\∃d:List Value,RVs tab β cs d/\∀j c,d[j]?=some c->w.cell? ⟨l.blk,off+l.sh+j,none⟩=some c:=by
 unfold H.ldc at hl
 split at hl
 ·rename_i h0; cases hl
  exact⟨(Nat.eq_of_beq_eq_true h0).symm,[],rfl,fun j c hj=>by simp at hj⟩
 ·split at hl
  ·rename_i all k hg
   split at hl
   ·rename_i hle; simp at hle; cases hl
    obtain⟨l',hl',hB⟩:=hR.blk b _ hg
    rw[hb] at hl'; cases hl'
    have hlen:((all.drop off).take n).length=n:=by simp; omega
    refine⟨hlen,?_⟩
    have hget:∀j,j<n->∃c,w.cell? ⟨l.blk,off+l.sh+j,none⟩=some c/\∀u,((all.drop off).take n)[j]?=some u->RV tab β u c:=by
     intro j hj
     have hlt:off+j<all.length:=by omega
     obtain⟨c,hc,hr⟩:=hB.2.1 (off+j) all[off+j] (by simp[hlt])
     refine⟨c,by rw[<-hc]; congr 2; omega,fun u hu => ?_⟩
     rw[List.getElem?_take,if_pos hj,List.getElem?_drop,List.getElem?_eq_getElem hlt] at hu
     cases hu; exact hr
    have hall:∃f:Nat->Value,∀j,j<n->w.cell? ⟨l.blk,off+l.sh+j,none⟩=some (f j)/\∀u,((all.drop off).take n)[j]?=some u->RV tab β u (f j) :=
     ⟨fun j=>if hj:j<n then (hget j hj).choose else default,fun j hj=>by simp only[dif_pos hj]; exact(hget j hj).choose_spec⟩
    obtain⟨f,hf⟩:=hall
    refine⟨(List.range n).map f,RVs.of_get (by rw[hlen]; simp) fun i u c hu hc => ?_,fun j c hj => ?_⟩
    ·have hi:i<n:=by
      rcases Nat.lt_or_ge i n with h | h
      ·exact h
      ·rw[List.getElem?_eq_none (by simp; omega)] at hc; cases hc
     rw[List.getElem?_map,List.getElem?_range hi] at hc
     simp at hc; rw[<-hc]; exact(hf i hi).2 u hu
    ·have hi:j<n:=by
      rcases Nat.lt_or_ge j n with h | h
      ·exact h
      ·rw[List.getElem?_eq_none (by simp; omega)] at hj; cases hj
     rw[List.getElem?_map,List.getElem?_range hi] at hj
     simp at hj; rw[<-hj]; exact(hf j hi).1
   ·cases hl
  ·cases hl
theorem z015 {B O:Nat}{d:List Value}{n:Nat} (hn:d.length=n) (hd:∀j c,d[j]?=some c->w.cell? ⟨B,O+j,none⟩=some c):(Go.loadCells ⟨B,O,none⟩ n).run P w=.ok d.toArray w:=by
 rw[<-hn]
 exact Go.run_loadCells_list w ⟨B,O,none⟩ d (fun j c hj=>by rw[zhw]; exact hd j c hj)
theorem z0n2 (hR:Rel tab β h.get w) (hE:EnvR tab β env a) {t:TypeId}{d:TypeDesc}{x:Operand}{x':Opd} (ho:o.op=.load t x) (hu:P.underlying t=some d) (hag:z5u P t=false) (hx:cOpd tab x=some x') (hs:sd M (.load1 x') env h=some (v,h')):Gw P o a w (Post tab β h w v h') Q:=by
 simp only[sd,step,Option.bind_eq_some_iff,Option.some.injEq,Prod.mk.injEq] at hs
 obtain⟨u,hl,rfl,rfl⟩:=hs
 obtain⟨B,O,cv,hc,hcell,hr,_⟩:=z0g2 hR (zu hE hx) hl
 refine z03 (cv:=cv) (w':=w) ?_ (z0b hr hR)
 simp[Go.execOp,ho,hc,Go.Instr.loadAt,Go.Instr.sureAddr,Go.loadVar,zwx hu,hag,hcell]
theorem z0gq (hR:Rel tab β h.get w) {n:Nat}{x u:V}{c:Value} (hx:RV tab β x c) (hl:h.ldN n x=some u):∃B O d,c=.pointer (some ⟨B,O,none⟩)/\(Go.loadCells ⟨B,O,none⟩ n).run P w=.ok d w/\RV tab β u (.agg d):=by
 unfold H.ldN at hl
 split at hl
 ·rename_i b off
  split at hl
  ·rename_i cs hcs
   cases hl
   obtain⟨l,hl,rfl⟩:=hx
   obtain⟨hn,d,hd,hcell⟩:=z078 hR hl hcs
   refine⟨_,_,d.toArray,rfl,z015 (by rw[<-RVs.length hd,hn]) hcell,_,rfl,hd⟩
  ·cases hl
 ·cases hl
theorem z0md (hR:Rel tab β h.get w) (hE:EnvR tab β env a) {t:TypeId}{d:TypeDesc}{x:Operand}{x':Opd} (ho:o.op=.load t x) (hu:P.underlying t=some d) (hag:z5u P t=true) (hx:cOpd tab x=some x') (hs:sd M (.loadN (P.cellsOf t) x') env h=some (v,h')):Gw P o a w (Post tab β h w v h') Q:=by
 simp only[sd,step,Option.bind_eq_some_iff,Option.some.injEq,Prod.mk.injEq] at hs
 obtain⟨u,hl,rfl,rfl⟩:=hs
 obtain⟨B,O,dd,hc,hcell,hr⟩:=z0gq (P:=P) hR (zu hE hx) hl
 refine z03 (cv:=.agg dd) (w':=w) ?_ (z0b hr hR)
 simp[Go.execOp,ho,hc,Go.Instr.loadAt,Go.Instr.sureAddr,Go.loadVar,zwx hu,hag,z008 hu,hcell]
theorem z0d6 (hr:Rel tab β h.get w) {w':World}{b:Nat}{x x':Blk}{l:Loc} (hb:h.get b=some x) (hx:x.wr=true) (hl:β b=some l) (hB:BlkR tab β w' l x')
  (hheap:∀B,B≠l.blk->w'.heap[B]?=w.heap[B]?) (hsize:w'.heap.size=w.heap.size) (h1:w'.os=w.os) (h2:w'.tape=w.tape) (h3:w'.output=w.output) :
  Rel tab β (h.put b (some x')).get w'/\Tr β β h (h.put b (some x')) w w':=by
 refine⟨⟨fun c y hc => ?_,fun c y c' y' m m' hc hc' hne hm hm' hy => ?_⟩,⟨Ext.refl _,fun c hc=>.inl hc,Nat.le_refl _,h1,h2,h3,by omega,fun B hB hn => ?_,fun c y m hc hm => ?_⟩⟩
 ·rw[H.get_put] at hc
  split at hc
  ·rename_i e; subst e; cases hc; exact⟨l,hl,hB⟩
  ·rename_i hcb
   obtain⟨m,hm,hM⟩:=hr.blk c y hc
   refine⟨m,hm,hM.keep (Ext.refl _) (by omega) (hheap _ ?_)⟩
   exact fun e=>hr.sep b x c y l m hb hc (fun e=>hcb e.symm) hl hm hx e.symm
 ·rw[H.get_put] at hc hc'
  split at hc
  ·rename_i e; subst e; cases hc
   rw[if_neg (fun e=>hne e.symm)] at hc'
   rw[hl] at hm; cases hm
   exact hr.sep c x c' y' l m' hb hc' hne hl hm' hx
  ·split at hc'
   ·rename_i e; subst e; cases hc'
    rw[hl] at hm'; cases hm'
    exact fun e=>hr.sep c' x c y l m hb hc (fun e=>hne e.symm) hl hm hx e.symm
   ·exact hr.sep c y c' y' m m' hc hc' hne hm hm' hy
 ·by_cases e:B=l.blk
  ·exact absurd e.symm (hn b x l hb hx hl)
  ·exact hheap B e
 ·rw[H.get_put] at hc
  split at hc
  ·rename_i e; subst e; cases hc; rw[hl] at hm; cases hm
   exact .inr ⟨c,x,l,hb,hl,rfl,fun _=>hx⟩
  ·exact .inr ⟨c,y,m,hc,hm,rfl,id⟩
theorem z0gm {vs:List V}{d:List Value} (h:RVs tab β vs d) (ha:vs.all V.one=true):∀x∈d,x.oneCell'=true:=by
 intro x hx
 obtain⟨i,hi,hix⟩:=List.getElem_of_mem hx
 have hl:=RVs.length h
 have hlt:i<vs.length:=by omega
 obtain⟨c,hc,hr⟩:=RVs.get h i vs[i] (by simp[hlt])
 rw[List.getElem?_eq_getElem hi,hix] at hc
 cases hc
 exact RV.one hr (List.all_eq_true.mp ha _ (List.getElem_mem hlt))
theorem z0an (hR:Rel tab β h.get w) {b off:Nat}{l:Loc}{vs:List V}{d:List Value} (hb:β b=some l) (hd:RVs tab β vs d) (hs:h.stc b off vs=some h') :
  ∃w',(Go.storeCells ⟨l.blk,off+l.sh,none⟩ d).run P w=.ok () w'/\Rel tab β h'.get w'/\Tr β β h h' w w':=by
 unfold H.stc at hs
 split at hs
 ·rename_i cs k hg
  split at hs
  ·cases hs
  ·rename_i hcond
   cases hs
   simp only[Bool.or_eq_false_iff,decide_eq_false_iff_not,Bool.not_eq_false',decide_eq_true_eq] at hcond
   obtain⟨⟨hk,hone⟩,hle⟩:=hcond
   obtain⟨l',hl',hB⟩:=hR.blk b _ hg
   rw[hb] at hl'; cases hl'
   obtain⟨h0,h1,h2,h3⟩:=hB
   obtain⟨c,e,hc,hcs,hcl⟩:=h2 hk
   have hdl:=RVs.length hd
   have hrun:=Go.run_storeCells_at (P:=P) l.blk (off+l.sh) e d 0 c w hc (by omega) (z0gm hd hone)
   simp only[Nat.add_zero] at hrun
   refine⟨_,hrun,?_⟩
   have hwr:(Blk.cells cs k).wr=true:=by cases k <;> first | rfl | exact absurd rfl hk
   have hnew:=Go.setRow_heap w l.blk c (c.toList.take (off+l.sh) ++ d ++ c.toList.drop (off+l.sh+d.length)).toArray e (0,0) hc
   refine z0d6 hR hg hwr hb ?_ (fun B hB=>Go.setRow_other w l.blk B _ hB) (by simp) rfl rfl rfl
   have hsl:(z07 cs off vs).length=cs.length:=by unfold z07; simp; omega
   refine⟨by simp; omega,fun i u hu => ?_,fun _=>⟨_,e,hnew,?_,?_⟩,h3⟩
   ·have hi:i<cs.length:=by
     rcases Nat.lt_or_ge i cs.length with h | h
     ·exact h
     ·rw[List.getElem?_eq_none (by omega)] at hu; cases hu
    have hcell:World.cell? (w.setRow l.blk (c.toList.take (off+l.sh) ++ d ++ c.toList.drop (off+l.sh+d.length)).toArray) ⟨l.blk,i+l.sh,none⟩=(c.toList.take (off+l.sh) ++ d ++ c.toList.drop (off+l.sh+d.length))[i+l.sh]?:=by
     simp only[World.cell?,hnew]; simp
    have hold:∀u,cs[i]?=some u->∃x,c.toList[i+l.sh]?=some x/\RV tab β u x:=by
     intro u hu
     obtain⟨x,hx,hr⟩:=h1 i u hu
     simp only[World.cell?,hc] at hx
     refine⟨x,?_,hr⟩
     simpa using hx
    rw[hcell]
    have hlt1:(c.toList.take (off+l.sh)).length=off+l.sh:=by rw[List.length_take]; simp; omega
    have hlt2:(cs.take off).length=off:=by rw[List.length_take]; omega
    unfold z07 at hu
    by_cases p1:i<off
    ·rw[List.append_assoc,List.getElem?_append_left (by omega),List.getElem?_take,if_pos p1] at hu
     obtain⟨x,hx,hr⟩:=hold u hu
     refine⟨x,?_,hr⟩
     rw[List.append_assoc,List.getElem?_append_left (by omega),List.getElem?_take,if_pos (by omega)]; exact hx
    ·by_cases p2:i<off+vs.length
     ·rw[List.append_assoc,List.getElem?_append_right (by omega),List.getElem?_append_left (by omega)] at hu
      obtain⟨x,hx,hr⟩:=RVs.get hd _ u hu
      refine⟨x,?_,hr⟩
      rw[List.append_assoc,List.getElem?_append_right (by omega),List.getElem?_append_left (by omega),<-hx]
      congr 1; omega
     ·rw[List.getElem?_append_right (by simp; omega),List.getElem?_drop] at hu
      have e1:off+vs.length+(i-(cs.take off ++ vs).length)=i:=by simp; omega
      rw[e1] at hu
      obtain⟨x,hx,hr⟩:=hold u hu
      refine⟨x,?_,hr⟩
      rw[List.getElem?_append_right (by simp; omega),List.getElem?_drop]
      have e2:off+l.sh+d.length+(i+l.sh-(c.toList.take (off+l.sh) ++ d).length)=i+l.sh:=by simp; omega
      rw[e2]; exact hx
   ·simp; omega
   ·rw[hsl]; simp; omega
 ·cases hs
theorem z0m6 (hR:Rel tab β h.get w) (hE:EnvR tab β env a) {t:TypeId}{d:TypeDesc}{x y:Operand}{x' y':Opd} (ho:o.op=.store t x y) (hu:P.underlying t=some d) (hx:cOpd tab x=some x') (hy:cOpd tab y=some y') (hs:sd M (.store (P.cellsOf t) x' y') env h=some (v,h')):Gw P o a w (Post tab β h w v h') Q:=by
 simp only[sd,step,Option.bind_eq_some_iff,Option.some.injEq,Prod.mk.injEq] at hs
 obtain⟨h1,hst,rfl,rfl⟩:=hs
 unfold H.st at hst
 split at hst
 ·rename_i b off e1
  split at hst
  ·rename_i hn
   have hn:=Nat.eq_of_beq_eq_true hn
   have hxr:=zu hE hx
   rw[e1] at hxr
   obtain⟨l,hl,hxv⟩:=hxr
   have hyr:=zu hE hy
   have hbox:∃cs,boxc (opd env y')=some cs:=by
    cases hv:opd env y' with
    | dead=>rw[hv] at hst; unfold H.stc at hst; split at hst <;> simp[V.cells,V.one] at hst
    | tup l=>rw[hv] at hst; unfold H.stc at hst; split at hst <;> simp[V.cells,V.one] at hst
    | _=>exact⟨_,rfl⟩
   have hcells:=RV.cells hyr hbox
   obtain⟨w',hrun,hrel,htr⟩:=z0an (P:=P) hR hl hcells hst
   refine z0a2 (w':=w') ?_ ⟨β,RV.undef,hrel,htr⟩
   have hcl:=RVs.length hcells
   have hsz:¬(a.eval y).cells.size≠P.cellsOf t:=by simp at hcl ⊢; omega
   simp only[Go.execOp,ho,hxv,Go.Instr.storeAt,Go.Instr.sureAddr,Go.storeVar,Sem.run_bind,Sem.run_pure,Go.Result.andThen_ok,z008 hu,if_neg hsz,Sem.run_ite,hrun]
  ·cases hst
 ·cases hst
end
end Wm
