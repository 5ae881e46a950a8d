/- Each operation of my machine, as the model carries it out: comparisons, parts, addresses. -/
import Derived.Test.YthkimcdeejjmbaaWmStepB
import Derived.Laws.StructEq
import Derived.Laws.Strings
set_option linter.all false
namespace Wm
open Go (Value Addr World Obj Program IntKind TypeId Oper Operand Act Exit Sem TypeDesc)
theorem ze5 {P:Program}{t:TypeId}{i:Go.TypeInfo} (h:P.info? t=some i) (w:World):(Go.typeInfo t).run P w=.ok i w:=by
 simp[Go.typeInfo,h]
theorem z074 {P:Program}{t:TypeId}{d:TypeDesc} (h:P.underlying t=some d):∃i,P.info? t=some i:=by
 unfold Program.underlying at h
 cases hi:P.info? t with
 | none=>simp[hi] at h
 | some i=>exact⟨i,rfl⟩
theorem z008 {P:Program}{t:TypeId}{d:TypeDesc} (h:P.underlying t=some d) (w:World):(Go.sizeOf t).run P w=.ok (P.cellsOf t) w:=by
 obtain⟨i,hi⟩:=z074 h
 simp[Go.sizeOf,ze5 hi,Program.cellsOf,hi]
theorem zwx {P:Program}{t:TypeId}{d:TypeDesc} (h:P.underlying t=some d) (w:World):(Go.isAgg t).run P w=.ok (z5u P t) w:=by
 unfold Go.isAgg z5u
 simp only[Go.Sem.run_bind,Go.run_underlying h,Go.Result.andThen_ok,h]
 cases d <;> simp
theorem zzs {P:Program}{t:TypeId}{d:TypeDesc} (h:P.underlying t=some d) (w:World) (cs:Array Value) (off:Nat) :
  (Go.part t cs off).run P w=match z5u P t with
   | true=>.ok (.agg (cs.extract off (off+P.cellsOf t))) w
   | false=>match cs[off]? with
    | some v=>.ok v w
    | none=>.halt (.stuck "part: no such cell") w:=by
 unfold Go.part
 simp only[Go.Sem.run_bind,zwx h,Go.Result.andThen_ok]
 cases z5u P t with
 | true=>simp[z008 h]
 | false =>
  simp only[Bool.false_eq_true,if_false]
  cases cs[off]? <;> simp
theorem z044 (xs ys:List V):∀(l m:List (Nat × Ck)),zdp xs ys (l ++ m)=match zdp xs ys l with
  | some true=>zdp xs ys m
  | r=>r
 | [],m=>rfl
 | o :: l,m=>by
  simp only[List.cons_append,zdp]
  split
  ·split
   ·exact z044 xs ys l m
   ·rfl
   ·rfl
  ·rfl
theorem z09d (xs ys:List V) (off n:Nat):∀(l:List (Nat × Ck)),(l.all (fun o=>decide (o.1<n))=true) ->
  zdp ((xs.drop off).take n) ((ys.drop off).take n) l=zdp xs ys (l.map fun o=>(o.1+off,o.2))
 | [],_=>rfl
 | o :: l,h=>by
  simp only[List.all_cons,Bool.and_eq_true,decide_eq_true_eq] at h
  simp only[List.map_cons,zdp,List.getElem?_take,List.getElem?_drop,if_pos h.1,Nat.add_comm off o.1,z09d xs ys off n l h.2]
theorem z027 {x y:V}{r:Bool} (h:z79 .bool x y=some r):∃a b,x=.bool a/\y=.bool b/\r=(a == b):=by
 unfold z79 at h
 split at h <;> first | (rename_i a b; cases h; exact⟨a,b,rfl,rfl,rfl⟩) | (simp_all; done) | cases h
theorem z037 {x y:V}{r:Bool} (h:z79 .str x y=some r):∃a b,x=.str a/\y=.str b/\r=(a.toList == b.toList):=by
 unfold z79 at h
 split at h <;> first | (rename_i a b; cases h; exact⟨a,b,rfl,rfl,rfl⟩) | (simp_all; done) | cases h
theorem z03i {x y:V}{r:Bool} (h:z79 .int x y=some r):∃k a b,x=.int k a/\y=.int k b/\r=decide (a=b):=by
 unfold z79 at h
 split at h
 ·simp_all
 ·split at h
  ·rename_i e; simp at e; subst e; cases h; exact⟨_,_,_,rfl,rfl,rfl⟩
  ·cases h
 ·simp_all
 ·cases h
section
variable {P:Program}{tab:Tab}{β:Nat->Option Loc}
theorem z01m {xs:List V}{a:Array Value} (h:RVs tab β xs a.toList) (off n:Nat):RVs tab β ((xs.drop off).take n) (a.extract off (off+n)).toList:=by
 rw[Array.toList_extract]
 show RVs tab β _ ((a.toList.drop off).take (off+n-off))
 rw[Nat.add_sub_cancel_left]
 exact RVs.take (RVs.drop h off) n
theorem z0nm (w:World):∀(d:Nat) (t:TypeId) (offs:List (Nat × Ck)),zm0 P d t=some offs->∀(D:Nat),d<=D ->
  (z5u P t=true->∀xs ys (a b:Array Value) r,RVs tab β xs a.toList->RVs tab β ys b.toList->zdp xs ys offs=some r->(Go.Op.equalIn D t (.agg a) (.agg b)).run P w=.ok r w) /\
  (z5u P t=false->∀x y (a b:Value) r,RV tab β x a->RV tab β y b->zdp [x] [y] offs=some r->(Go.Op.equalIn D t a b).run P w=.ok r w):=by
 intro d
 induction d with
 | zero=>intro t offs h; simp[zm0] at h
 | succ d ih =>
  intro t offs h D hD
  obtain⟨D,rfl⟩:∃n,D=n+1:=⟨D-1,by omega⟩
  unfold zm0 at h
  have one:∀ {x y:V}{c:Ck}{r:Bool},zdp [x] [y] [(0,c)]=some r->z79 c x y=some r:=by
   intro x y c r hr
   simp only[zdp,List.getElem?_cons_zero] at hr
   split at hr
   ·rename_i e; cases hr; exact e
   ·rename_i e; cases hr; exact e
   ·cases hr
  split at h
  ·rename_i hu
   cases h
   refine⟨fun hagg=>(by simp[z5u,hu] at hagg),fun _ x y a b r hx hy hr => ?_⟩
   obtain⟨p,q,rfl,rfl,rfl⟩:=z027 (one hr)
   cases hx; cases hy
   exact Go.run_equalIn_bool' w D t p q hu
  ·rename_i k hu
   cases h
   refine⟨fun hagg=>(by simp[z5u,hu] at hagg),fun _ x y a b r hx hy hr => ?_⟩
   obtain⟨k',p,q,rfl,rfl,rfl⟩:=z03i (one hr)
   cases hx; cases hy
   rw[Go.run_equalIn_int w D t k' k p q hu]; rfl
  ·rename_i hu
   cases h
   refine⟨fun hagg=>(by simp[z5u,hu] at hagg),fun _ x y a b r hx hy hr => ?_⟩
   obtain⟨p,q,rfl,rfl,rfl⟩:=z037 (one hr)
   cases hx; cases hy
   exact Go.run_equalIn_string w D t p q hu
  ·rename_i fs hu
   split at h
   ·cases h
   ·rename_i hsi
    obtain⟨ls,hls,rfl⟩:=Option.map_eq_some_iff.mp h
    replace hls:=zfc hls
    have hfs:P.fieldsOf t=fs:=by simp[Program.fieldsOf,hu]
    refine⟨fun _ xs ys a b r hx hy hr => ?_,fun hagg=>(by simp[z5u,hu] at hagg)⟩
    rw[Go.run_equalIn_struct w D t a b (by rw[hfs]; exact hu) hsi,hfs]
    clear hu hfs h
    generalize fs.toList=fl at hls
    induction fl generalizing ls r with
    | nil =>
     cases ls with
     | nil=>simp only[List.flatten_nil,zdp,Option.some.injEq] at hr; subst hr; rfl
     | cons l ls=>simp at hls
    | cons f fl ihf =>
     cases ls with
     | nil=>simp at hls
     | cons l ls =>
      simp only[List.map_cons,List.cons.injEq] at hls
      obtain⟨hf,hrest⟩:=hls
      split at hf
      ·cases hf
      ·rename_i hname
       have hne:f.name ≠ "_" := by simpa using hname
       simp only[Option.bind_eq_some_iff] at hf
       obtain⟨l0,hl0,hf⟩:=hf
       split at hf
       ·rename_i hall
        cases hf
        rw[List.flatten_cons,z044] at hr
        have hun:∃d',P.underlying f.type=some d':=by
         cases d with
         | zero=>simp[zm0] at hl0
         | succ d =>
          unfold zm0 at hl0
          split at hl0 <;> first | exact⟨_,by assumption⟩ | cases hl0
        obtain⟨d',hun⟩:=hun
        have IH:=ih f.type l0 hl0 D (by omega)
        have key:∀q,zdp xs ys (l0.map fun o=>(o.1+f.offset,o.2))=some q->∃va vb,(Go.part f.type a f.offset).run P w=.ok va w/\(Go.part f.type b f.offset).run P w=.ok vb w/\(Go.Op.equalIn D f.type va vb).run P w=.ok q w:=by
         intro q hq
         cases hag:z5u P f.type with
         | true =>
          rw[<-z09d xs ys f.offset (P.cellsOf f.type) l0 hall] at hq
          exact⟨_,_,by rw[zzs hun,hag],by rw[zzs hun,hag],IH.1 hag _ _ _ _ q (z01m hx _ _) (z01m hy _ _) hq⟩
         | false =>
          have hsing:∃c,l0=[(0,c)]:=by
           cases d with
           | zero=>simp[zm0] at hl0
           | succ d =>
            unfold zm0 at hl0
            split at hl0
            ·cases hl0; exact⟨_,rfl⟩
            ·cases hl0; exact⟨_,rfl⟩
            ·cases hl0; exact⟨_,rfl⟩
            ·rename_i fs' hu'; simp[z5u,hu'] at hag
            ·cases hl0
          obtain⟨c,rfl⟩:=hsing
          simp only[List.map_cons,List.map_nil,Nat.zero_add,zdp] at hq
          split at hq
          ·rename_i u1 u2 e1 e2
           obtain⟨c1,g1,r1⟩:=RVs.get hx _ _ e1
           obtain⟨c2,g2,r2⟩:=RVs.get hy _ _ e2
           have g1':a[f.offset]?=some c1:=by simpa using g1
           have g2':b[f.offset]?=some c2:=by simpa using g2
           refine⟨c1,c2,by rw[zzs hun,hag,g1'],by rw[zzs hun,hag,g2'],IH.2 hag u1 u2 c1 c2 q r1 r2 ?_⟩
           simp only[zdp,List.getElem?_cons_zero]
           exact hq
          ·cases hq
        simp only[Go.Op.eqFields,Go.Sem.run_bind,ne_eq,not_false_eq_true,if_true,hne]
        split at hr
        ·rename_i e
         obtain⟨va,vb,p1,p2,p3⟩:=key true e
         simp only[p1,p2,p3,Go.Result.andThen_ok,Bool.not_true,Bool.false_eq_true,if_false]
         exact ihf ls r hr hrest
        ·rename_i r' hne'
         obtain⟨va,vb,p1,p2,p3⟩:=key r (by rw[<-hr])
         have hrf:r=false:=by
          cases r with
          | true=>exact absurd hr (by intro e; exact hne' e)
          | false=>rfl
         subst hrf
         simp[p1,p2,p3]
       ·cases hf
  ·cases h
end
end Wm
