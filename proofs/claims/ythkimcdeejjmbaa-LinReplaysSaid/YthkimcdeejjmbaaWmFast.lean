/- The same evaluator, quicker to reckon with: temporaries in a tree. -/
import Derived.Test.YthkimcdeejjmbaaWmEv
import Derived.Test.YthkimcdeejjmbaaWmHeap
set_option linter.all false
namespace Wm
def z09o (rd:Opd->V) (cs:List V):List (Nat × Nat × Opd)->Option (List V)
 | []=>some cs
 | (off,size,x) :: rest =>
  match boxc (rd x) with
  | none=>none
  | some l=>match Nat.beq l.length size && decide (off+size<=cs.length) with
   | true=>z09o rd (z07 cs off l) rest
   | false=>none
theorem z08k (env:List V):∀(l:List (Nat × Nat × Opd)) (cs:List V),z09o (opd env) cs l=fill cs env l
 | [],cs=>rfl
 | (off,size,x) :: rest,cs=>by
  unfold z09o fill
  cases boxc (opd env x) with
  | none=>rfl
  | some l=>simp only[z08k env rest]; rfl
section
variable (M:Env)
def z02x {R:Type} (op:AOp) (rd:Opd->V) (h:H) (k:V->H->Option R):Option R :=
 match op with
 | .mov x=>k (rd x) h
 | .pick c a b=>(asB (rd c)).bind fun c=>k (match c with | true=>rd a | false=>rd b) h
 | .box x=>(boxc (rd x)).bind fun cs=>k (.ptr h.next 0) (h.new (.cells cs .rw))
 | .alloc cs=>k (.ptr h.next 0) (h.new (.cells cs .rw))
 | .build zero parts=>(z09o rd zero parts).bind fun cs=>k (.agg cs) h
 | .buildSl esz len zero parts=>match Nat.beq zero.length esz && decide (0<esz) with
  | true=>(z09o rd (repl zero len) parts).bind fun cs=>k (.sl h.next 0 len (.ex len)) (h.new (.cells cs .rw))
  | false=>none
 | .load1 a=>(h.ld1 (rd a)).bind fun v=>k v h
 | .loadN n a=>(h.ldN n (rd a)).bind fun v=>k v h
 | .store n a x=>(h.st n (rd a) (rd x)).bind fun h=>k .undef h
 | .nilc x=>(nilc (rd x)).bind fun v=>k v h
 | .arith op kd x y=>(asI kd (rd x)).bind fun a=>(asI kd (rd y)).bind fun b=>(arith op kd a b).bind fun n=>k (.int kd n) h
 | .cmp op kd x y=>(asI kd (rd x)).bind fun a=>(asI kd (rd y)).bind fun b=>k (.bool (cmpI op a b)) h
 | .shift left kx ky x y=>(asI kx (rd x)).bind fun a=>(asI ky (rd y)).bind fun b=>(z0dw left kx a b).bind fun n=>k (.int kx n) h
 | .eq neg e x y=>(eqV e (rd x) (rd y)).bind fun b=>k (.bool (z0hw neg b)) h
 | .not x=>(asB (rd x)).bind fun b=>k (.bool (!b)) h
 | .conv kd x=>(zaq (rd x)).bind fun n=>k (.int kd (wr kd n)) h
 | .cat x y=>(asS (rd x)).bind fun a=>(asS (rd y)).bind fun b=>match decide (a.size+b.size<=9223372036854775807) with
  | true=>k (.str (a ++ b)) h
  | false=>none
 | .bytesStr x=>(h.slc 1 (rd x)).bind fun l=>(bytesOf l).bind fun l=>k (.str ⟨l.toArray⟩) h
 | .mkIfc t x=>k (.ifc t (rd x)) h
 | .mkFn f caps=>k (.fn f (caps.map rd)) h
 | .mkMap=>k (.map h.next) (h.new (.map []))
 | .mkSl esz bytes zero len cap=>(asI .i64 (rd len)).bind fun l=>(asI .i64 (rd cap)).bind fun c=>(h.mkSl esz bytes zero l c).bind fun p=>k p.1 p.2
 | .slice esz x lo hi mx=>(zgq esz (rd x) (lo.map rd) (hi.map rd) (mx.map rd)).bind fun v=>k v h
 | .strSlice x lo hi=>(z066 (rd x) (lo.map rd) (hi.map rd)).bind fun v=>k v h
 | .fieldA off x=>(za (rd x) off).bind fun v=>k v h
 | .field off size agg x=>(z8n (rd x)).bind fun cs=>(part agg cs off size).bind fun v=>k v h
 | .indexA esz x i=>(z0 esz (rd x) (rd i)).bind fun v=>k v h
 | .indexArr n esz x i=>(zkk n (rd i)).bind fun j=>(za (rd x) (j * esz)).bind fun v=>k v h
 | .indexAgg n esz agg x i=>(z8n (rd x)).bind fun cs=>(zkk n (rd i)).bind fun j=>(part agg cs (j * esz) esz).bind fun v=>k v h
 | .indexStr x i=>(asS (rd x)).bind fun s=>(zkk s.size (rd i)).bind fun j=>k (.int .u8 (s.get! j).toNat) h
 | .lookup c zero ok m key=>(h.look c zero ok (rd m) (rd key)).bind fun v=>k v h
 | .mapSet c m key x=>(h.mapSet c (rd m) (rd key) (rd x)).bind fun h=>k .undef h
 | .mapDel c m key=>(h.mapDel c (rd m) (rd key)).bind fun h=>k .undef h
 | .lenSl x=>(lenSl (rd x)).bind fun n=>k (.int .i64 n) h
 | .lenStr x=>(asS (rd x)).bind fun s=>k (.int .i64 s.size) h
 | .lenMap x=>(h.entries (rd x)).bind fun es=>k (.int .i64 es.length) h
 | .append esz bytes s x=>(h.append esz bytes (rd s) (rd x)).bind fun p=>k p.1 p.2
 | .copy esz d s=>(h.copy esz (rd d) (rd s)).bind fun p=>k p.1 p.2
 | .minmax isMax kd x y=>(asI kd (rd x)).bind fun a=>(asI kd (rd y)).bind fun b=>k (.int kd (match isMax with | true=>max a b | false=>min a b)) h
 | .extract x i=>match rd x with
  | .tup vs=>(vs[i]?).bind fun v=>k v h
  | _=>none
 | .call f args=>(M.call f (args.map rd) h).bind fun p=>k p.1 p.2
 | .callv f args=>match rd f with
  | .fn f caps=>(M.call f (args.map rd ++ caps) h).bind fun p=>k p.1 p.2
  | _=>none
 | .invoke m recv args=>match rd recv with
  | .ifc t v=>(M.meth t m).bind fun f=>(M.call f (v :: args.map rd) h).bind fun p=>k p.1 p.2
  | _=>none
 | .cloneM x=>(h.cloneM (rd x)).bind fun p=>k p.1 p.2
 | .asrt t x=>(z0hv t (rd x)).bind fun v=>k v h
theorem z0kj {R:Type} (op:AOp) (env:List V) (h:H) (k:V->H->Option R):z02x M op (opd env) h k=step M op env h k:=by
 cases op <;> first
  | rfl
  | (simp only[z02x,step,z08k]; done)
  | (simp only[z02x,step,z08k]; rfl)
theorem z0jt {R' R:Type} (g:R'->R) (op:AOp) (rd:Opd->V) (h:H) (k:V->H->Option R'):(z02x M op rd h k).map g=z02x M op rd h fun v h=>(k v h).map g:=by
 cases op <;> simp only[z02x,Option.map_bind,Function.comp_def] <;> first
  | done
  | rfl
  | (split <;> first | rfl | (simp only[Option.map_bind,Function.comp_def]; done) | (simp only[Option.map_bind,Function.comp_def]; rfl))
  | (congr 1; funext a; congr 1; funext b; split <;> rfl)
end
def AOp.againR (rd:Opd->V) (h:H):AOp->Option V
 | .load1 a=>h.ld1 (rd a)
 | .loadN n a=>h.ldN n (rd a)
 | .lookup c z ok m key=>h.look c z ok (rd m) (rd key)
 | .lenMap x=>match h.entries (rd x) with
  | some es=>some (.int .i64 es.length)
  | none=>none
 | _=>none
theorem z0j3 (op:AOp) (env:List V) (h:H):op.againR (opd env) h=op.again env h:=by
 cases op <;> rfl
inductive FE where
 | nil (d:V)
 | cons (i:Nat) (v:V) (e:FE)
noncomputable def FE.look (i:Nat) (e:FE):V:=FE.rec (motive:=fun _=>V) (fun d=>d) (fun j v _ ih=>Bool.rec (motive:=fun _=>V) ih v (Nat.beq j i)) e
noncomputable def FE.rd (N:Nat) (e:FE) (i:Nat):V:=Bool.rec (motive:=fun _=>V) (e.look i) .undef (Nat.ble N i)
noncomputable def FE.opd (N:Nat) (e:FE) (o:Opd):V:=Opd.rec (motive:=fun _=>V) (fun n=>e.rd N n) (fun v=>v) o
noncomputable def FE.put (e:FE) (d:Option Nat) (v:V):FE:=Option.rec (motive:=fun _=>FE) e (fun d=>.cons d v e) d
def FR (N:Nat) (e:FE) (l:List V):Prop:=N=l.length/\∀i,e.rd N i=l.getD i .undef
theorem z0cz {N i:Nat} (h:i<N) (e:FE):e.rd N i=e.look i:=by
 unfold FE.rd
 rw[show Nat.ble N i=false from by rw[Bool.eq_false_iff]; intro q; exact absurd (Nat.le_of_ble_eq_true q) (by omega)]
theorem z09x {N i:Nat} (h:N<=i) (e:FE):e.rd N i=.undef:=by
 unfold FE.rd
 rw[Nat.ble_eq_true_of_le h]
theorem z071 (i j:Nat) (v:V) (e:FE):(FE.cons i v e).look j=if i=j then v else e.look j:=by
 show Bool.rec (motive:=fun _=>V) (e.look j) v (Nat.beq i j)=_
 by_cases h:i=j
 ·subst h; rw[Nat.beq_refl,if_pos rfl]
 ·rw[show Nat.beq i j=false from by rw[Bool.eq_false_iff]; intro q; exact h (Nat.eq_of_beq_eq_true q),if_neg h]
variable {N:Nat}
theorem FR.set {e:FE}{l:List V} (h:FR N e l) (i:Nat) (v:V):FR N (.cons i v e) (l.set i v):=by
 obtain⟨h1,h2⟩:=h
 refine⟨by rw[List.length_set]; exact h1,fun j => ?_⟩
 rw[List.getD_eq_getElem?_getD,List.getElem?_set]
 have hj2:=h2 j
 rw[List.getD_eq_getElem?_getD] at hj2
 by_cases hj:j<N
 ·rw[z0cz hj] at hj2 ⊢
  rw[z071,hj2]
  by_cases hi:i=j
  ·subst hi; simp[show i<l.length by omega]
  ·rw[if_neg hi,if_neg hi]
 ·rw[z09x (by omega)]
  by_cases hi:i=j
  ·subst hi; simp[show ¬i<l.length by omega]
  ·rw[if_neg hi,List.getElem?_eq_none (by omega)]; rfl
theorem FR.put {e:FE}{l:List V} (h:FR N e l) (d:Option Nat) (v:V):FR N (e.put d v) (Wm.put l d v):=by
 cases d with
 | none=>exact h
 | some d=>exact h.set d v
theorem FR.opd {e:FE}{l:List V} (h:FR N e l):e.opd N=Wm.opd l:=by
 funext o
 cases o with
 | t n=>exact h.2 n
 | c v=>rfl
noncomputable def FE.toL (N:Nat) (e:FE):List V:=(List.range N).map (e.rd N)
theorem FR.toL {e:FE}{l:List V} (h:FR N e l):e.toL N=l:=by
 obtain⟨h1,h2⟩:=h
 unfold FE.toL
 apply List.ext_getElem?
 intro i
 rw[List.getElem?_map,h1]
 by_cases hi:i<l.length
 ·rw[List.getElem?_range hi,List.getElem?_eq_getElem hi]
  rw[h1] at h2
  simp[h2,hi]
 ·rw[List.getElem?_eq_none (by simp; omega),List.getElem?_eq_none (by omega)]; rfl
def z06y:List V->Nat->FE
 | [],_=>.nil .undef
 | v :: l,i=>.cons i v (z06y l (i+1))
theorem z07w:∀(l:List V) (i j:Nat),(z06y l i).look j=if i<=j then l.getD (j-i) .undef else .undef
 | [],i,j=>by
  show V.undef=_
  split <;> simp
 | v :: l,i,j=>by
  unfold z06y
  rw[z071,z07w l (i+1) j]
  by_cases h:i=j
  ·subst h; simp
  ·rw[if_neg h]
   by_cases hj:i+1<=j
   ·rw[if_pos hj,if_pos (by omega),show j-i=(j-(i+1))+1 by omega]; rfl
   ·rw[if_neg hj,if_neg (by omega)]
theorem z094:∀m,(und m).length=m
 | 0=>rfl
 | m+1=>by simp[und,z094 m]
theorem z0g5:∀m i:Nat,(und m).getD i .undef=.undef
 | 0,i=>by simp[und]
 | m+1,0=>rfl
 | m+1,i+1=>z0g5 m i
theorem FR.start (args:List V) (m:Nat):FR (args.length+m) (z06y args 0) (args ++ und m):=by
 refine⟨by simp[z094],fun i => ?_⟩
 have h:=z07w args 0 i
 rw[if_pos (by omega),Nat.sub_zero] at h
 have hu:(args ++ und m).getD i .undef=args.getD i .undef:=by
  by_cases hi:i<args.length
  ·rw[List.getD_eq_getElem?_getD,List.getElem?_append_left hi,<-List.getD_eq_getElem?_getD]
  ·rw[List.getD_eq_getElem?_getD,List.getElem?_append_right (by omega),<-List.getD_eq_getElem?_getD,z0g5,List.getD_eq_getElem?_getD,List.getElem?_eq_none (by omega)]; rfl
 rw[hu]
 by_cases hi:i<args.length+m
 ·rw[z0cz hi,h]
 ·rw[z09x (by omega),List.getD_eq_getElem?_getD,List.getElem?_eq_none (by omega)]; rfl
noncomputable def sameF (N:Nat) (e:FE) (d:Nat):Option V->Bool
 | some v=>cond (Nat.ble N d) false (V.beq v (e.look d))
 | none=>false
theorem z0l3 {e:FE}{l:List V} (h:FR N e l) (d:Nat) (o:Option V):sameF N e d o=same l d o:=by
 cases o with
 | none=>rfl
 | some v =>
  unfold sameF same
  obtain⟨h1,h2⟩:=h
  by_cases hd:d<l.length
  ·rw[show Nat.ble N d=false from by rw[Bool.eq_false_iff]; intro q; exact absurd (Nat.le_of_ble_eq_true q) (by omega),List.getElem?_eq_getElem hd]
   have:=h2 d
   rw[z0cz (by omega)] at this
   rw[this]
   simp[hd]
  ·rw[Nat.ble_eq_true_of_le (by omega),List.getElem?_eq_none (by omega)]; rfl
noncomputable def Chk.okF (N:Nat) (e:FE) (h:H) (c:Chk):Bool :=
 match c.g with
 | none=>sameF N e c.d (c.op.againR (e.opd N) h)
 | some (g,want)=>match e.rd N g with
  | .bool b=>match b == want with
   | true=>sameF N e c.d (c.op.againR (e.opd N) h)
   | false=>true
  | .tup []=>true
  | _=>false
theorem z0nu {e:FE}{l:List V} (hr:FR N e l) (h:H) (c:Chk):c.okF N e h=c.ok l h:=by
 unfold Chk.okF Chk.ok
 rw[hr.opd,z0j3,z0l3 hr]
 cases c.g with
 | none=>rfl
 | some p=>simp only[hr.2]; rfl
noncomputable def chksF {R:Type} (N:Nat) (e:FE) (h:H) (k:Option R) (l:List Chk):Option R :=
 List.rec (motive:=fun _=>Option R) k (fun c _ ih=>Bool.rec (motive:=fun _=>Option R) none ih (c.okF N e h)) l
theorem z0d7 {R' R:Type} (g:R'->R) {e:FE}{l:List V} (hr:FR N e l) (h:H) {k':Option R'}{k:Option R} (hk:k'.map g=k):∀(cs:List Chk),(chksF N e h k' cs).map g=chks l h k cs
 | []=>hk
 | c :: cs=>by
  show Option.map g (Bool.rec (motive:=fun _=>Option R') none (chksF N e h k' cs) (c.okF N e h))=_
  unfold chks
  rw[z0nu hr]
  cases c.ok l h with
  | true=>exact z0d7 g hr h hk cs
  | false=>rfl
section
variable (M:Env)
noncomputable def evalIF {R:Type} (N:Nat) (i:AI) (e:FE) (h:H) (k:FE->H->Option R):Option R :=
 z02x M i.op (e.opd N) h fun v h=>chksF N e h (k (e.put i.dst v) h) i.chk
theorem z0bf {R' R:Type} (g:R'->R) (i:AI) {e:FE}{l:List V} (hr:FR N e l) (h:H) {k':FE->H->Option R'}{k:List V->H->Option R} (hk:∀e l h,FR N e l->(k' e h).map g=k l h):(evalIF M N i e h k').map g=zmj M i l h k:=by
 unfold evalIF zmj
 rw[hr.opd,z0jt,z0kj]
 congr 1
 funext v h
 exact z0d7 g hr h (hk _ _ _ (hr.put i.dst v)) _
noncomputable def evalBF {R:Type} (N:Nat):List AI->FE->H->(FE->H->Option R)->Option R
 | [],e,h,k=>k e h
 | i :: rest,e,h,k=>evalIF M N i e h fun e h=>evalBF N rest e h k
theorem z0ax {R' R:Type} (g:R'->R):∀(b:List AI) {e:FE}{l:List V} (_:FR N e l) (h:H) {k':FE->H->Option R'}{k:List V->H->Option R} (_:∀e l h,FR N e l->(k' e h).map g=k l h),(evalBF M N b e h k').map g=zfy M b l h k
 | [],_,_,hr,h,_,_,hk=>hk _ _ _ hr
 | i :: rest,_,_,hr,h,_,_,hk=>z0bf M g i hr h fun _ _ h hr=>z0ax g rest hr h hk
noncomputable def undefsF:List AI->FE->FE
 | [],e=>e
 | i :: rest,e=>undefsF rest (e.put i.dst .undef)
theorem FR.undefs:∀(b:List AI) {e:FE}{l:List V},FR N e l->FR N (undefsF b e) (Wm.undefs b l)
 | [],_,_,h=>h
 | i :: rest,_,_,h=>FR.undefs rest (h.put i.dst .undef)
noncomputable def evalIsF {R:Type} (N:Nat) (l:AIs):FE->H->(FE->H->Option R)->Option R :=
 AIs.rec (motive:=fun _=>FE->H->(FE->H->Option R)->Option R) (fun e h k=>k e h) (fun i _ ih e h k=>evalIF M N i e h fun e h=>ih e h k)
  (fun g want body _ ih e h k=>match e.rd N g with
   | .bool true=>match want with
    | true=>evalBF M N body (.cons g (.bool true) e) h fun e h=>ih e h k
    | false=>ih (undefsF body (.cons g (.bool true) e)) h k
   | .bool false=>match want with
    | false=>evalBF M N body (.cons g (.bool false) e) h fun e h=>ih e h k
    | true=>ih (undefsF body (.cons g (.bool false) e)) h k
   | .tup []=>ih (undefsF body e) h k
   | _=>none) l
theorem z0fo {R:Type} (g:Nat) (want:Bool) (body:List AI) (rest:AIs) (e:FE) (h:H) (k:FE->H->Option R):evalIsF M N (.grd g want body rest) e h k=match e.rd N g with
  | .bool true=>match want with
   | true=>evalBF M N body (.cons g (.bool true) e) h fun e h=>evalIsF M N rest e h k
   | false=>evalIsF M N rest (undefsF body (.cons g (.bool true) e)) h k
  | .bool false=>match want with
   | false=>evalBF M N body (.cons g (.bool false) e) h fun e h=>evalIsF M N rest e h k
   | true=>evalIsF M N rest (undefsF body (.cons g (.bool false) e)) h k
  | .tup []=>evalIsF M N rest (undefsF body e) h k
  | _=>none:=rfl
theorem zsv {R' R:Type} (g:R'->R):∀(b:AIs) {e:FE}{l:List V} (_:FR N e l) (h:H) {k':FE->H->Option R'}{k:List V->H->Option R} (_:∀e l h,FR N e l->(k' e h).map g=k l h),(evalIsF M N b e h k').map g=z1y M b l h k
 | .nil,_,_,hr,h,_,_,hk=>hk _ _ _ hr
 | .op i rest,_,_,hr,h,_,_,hk=>z0bf M g i hr h fun _ _ h hr=>zsv g rest hr h hk
 | .grd q want body rest,e,l,hr,h,k',k,hk=>by
  rw[z0fo]
  unfold z1y
  rw[<-hr.2 q]
  have h1:=fun b:Bool=>hr.set q (.bool b)
  generalize e.rd N q=v
  cases v with
  | bool b =>
   cases b <;> cases want <;> first
    | exact z0ax M g body (h1 _) h fun _ _ h hr=>zsv g rest hr h hk
    | exact zsv g rest ((h1 _).undefs body) h hk
  | tup vs =>
   cases vs with
   | nil=>exact zsv g rest (hr.undefs body) h hk
   | cons a b=>rfl
  | _=>rfl
noncomputable def FE.keep (N:Nat) (e:FE):List Nat->FE
 | []=>.nil .dead
 | i :: l=>.cons i (e.rd N i) (FE.keep N e l)
theorem z0bq (e:FE):∀(l:List Nat) (j:Nat),(e.keep N l).look j=if l.contains j=true then e.rd N j else .dead
 | [],j=>rfl
 | i :: l,j=>by
  unfold FE.keep
  rw[z071,z0bq e l,List.contains_cons]
  by_cases hj:i=j
  ·subst hj; simp
  ·have:(j == i)=false:=by simp only[beq_eq_false_iff_ne]; exact fun q=>hj q.symm
   rw[this,if_neg hj,Bool.false_or]
theorem z043 (keep:List Nat):∀(l:List V) (n:Nat),(z00 keep n l).length=l.length
 | [],_=>rfl
 | v :: l,n=>by simp[z00,z043 keep l]
theorem z097 (keep:List Nat):∀(l:List V) (n i:Nat),(z00 keep n l)[i]?=(l[i]?).map fun v=>match keep.contains (n+i) with | true=>v | false=>.dead
 | [],_,i=>by simp[z00]
 | v :: l,n,0=>by simp[z00]; rfl
 | v :: l,n,i+1=>by
  simp only[z00,List.getElem?_cons_succ]
  rw[z097 keep l (n+1) i,show n+1+i=n+(i+1) by omega]
theorem FR.keep {e:FE}{l:List V} (h:FR N e l) (k:List Nat):FR N (e.keep N k) (z00 k 0 l):=by
 obtain⟨h1,h2⟩:=h
 refine⟨by rw[z043]; exact h1,fun i => ?_⟩
 rw[List.getD_eq_getElem?_getD,z097,Nat.zero_add]
 have hi2:=h2 i
 rw[List.getD_eq_getElem?_getD] at hi2
 by_cases hi:i<N
 ·rw[z0cz hi,z0bq,List.getElem?_eq_getElem (by omega)]
  rw[List.getElem?_eq_getElem (by omega)] at hi2
  simp only[Option.map_some,Option.getD_some] at hi2 ⊢
  cases k.contains i with
  | true=>simp only[if_true]; exact hi2
  | false=>rfl
 ·rw[z09x (by omega),List.getElem?_eq_none (by omega)]; rfl
noncomputable abbrev toLX (N:Nat) (p:AX × FE × H):AX × List V × H:=(p.1,p.2.1.toL N,p.2.2)
def z09e (body:FE->H->Option (AX × FE × H)):Nat->FE->H->Option (AX × FE × H)
 | 0,_,_=>none
 | n+1,e,h=>match body e h with
  | some (.normal,e,h)=>z09e body n e h
  | r=>r
def z07c (body:Nat->FE->H->Option (AX × FE × H)):Nat->Nat->FE->H->Option (AX × FE × H)
 | 0,_,_,_=>none
 | n+1,l,e,h=>match body l e h with
  | some (.goto j,e,h)=>z07c body n (j+1) e h
  | r=>r
theorem FR.self (e:FE):FR N e (e.toL N):=by
 refine⟨by simp[FE.toL],fun i => ?_⟩
 unfold FE.toL
 by_cases hi:i<N
 ·simp[hi]
 ·rw[List.getD_eq_getElem?_getD,List.getElem?_eq_none (by simp; omega),z09x (by omega)]
  rfl
theorem z0bg {b':FE->H->Option (AX × FE × H)}{b:List V->H->Option (AX × List V × H)} (hb:∀e l h,FR N e l->(b' e h).map (toLX N)=b l h):∀(n:Nat) (e:FE) (l:List V) (h:H),FR N e l->(z09e b' n e h).map (toLX N)=z5x b n l h
 | 0,_,_,_,_=>rfl
 | n+1,e,l,h,hr=>by
  unfold z09e z5x
  rw[<-hb e l h hr]
  cases b' e h with
  | none=>rfl
  | some p =>
   obtain⟨x,e',h'⟩:=p
   cases x with
   | normal=>exact z0bg hb n e' _ h' (FR.self e')
   | _=>rfl
theorem z09u {b':Nat->FE->H->Option (AX × FE × H)}{b:Nat->List V->H->Option (AX × List V × H)} (hb:∀m e l h,FR N e l->(b' m e h).map (toLX N)=b m l h):∀(n m:Nat) (e:FE) (l:List V) (h:H),FR N e l->(z07c b' n m e h).map (toLX N)=z35 b n m l h
 | 0,_,_,_,_,_=>rfl
 | n+1,m,e,l,h,hr=>by
  unfold z07c z35
  rw[<-hb m e l h hr]
  cases b' m e h with
  | none=>rfl
  | some p =>
   obtain⟨x,e',h'⟩:=p
   cases x with
   | goto j=>exact z09u hb n (j+1) e' _ h' (FR.self e')
   | _=>rfl
variable (rounds N:Nat)
mutual
noncomputable def evalCF {R:Type}:ACode->FE->H->(AX->FE->H->Option R)->Option R
 | .skip,e,h,k=>k .normal e h
 | .ops l,e,h,k=>evalIsF M N l e h fun e h=>k .normal e h
 | .seq a b,e,h,k=>evalCF a e h fun x e h=>match x with
  | .normal=>evalCF b e h k
  | x=>k x e h
 | .cond c a b,e,h,k=>(asB (e.opd N c)).bind fun c=>match c with
  | true=>evalCF a e h k
  | false=>evalCF b e h k
 | .block id a,e,h,k=>evalCF a e h fun x e h=>match x with
  | .exit j=>match Nat.beq j id with
   | true=>k .normal e h
   | false=>k (.exit j) e h
  | x=>k x e h
 | .join keep out a,e,h,k =>
  (evalCF a (e.keep N keep) h fun x e h=>some (x,e.keep N out,h)).bind fun p=>k p.1 p.2.1 p.2.2
 | .loop keep out a,e,h,k =>
  (z09e (fun e h=>evalCF a e h fun x e h=>match x with
   | .normal=>some (AX.normal,e.keep N keep,h)
   | x=>some (x,e.keep N out,h)) rounds (e.keep N keep) h).bind fun p=>k p.1 p.2.1 p.2.2
 | .scope keep out a alts,e,h,k =>
  (z07c (fun l e h=>match l with
   | 0=>evalCF a e h fun x e h=>match x with
    | .goto j=>some (AX.goto j,e.keep N keep,h)
    | x=>some (x,e.keep N out,h)
   | l+1=>evalAF alts l e h fun x e h=>match x with
    | .goto j=>some (AX.goto j,e.keep N keep,h)
    | x=>some (x,e.keep N out,h)) rounds 0 e h).bind fun p=>k p.1 p.2.1 p.2.2
 | .alt _ _ _,_,_,_=>none
 | .exit id,e,h,k=>k (.exit id) e h
 | .goto l,e,h,k=>k (.goto l) e h
 | .ret,e,h,k=>k .ret e h
noncomputable def evalAF {R:Type}:ACode->Nat->FE->H->(AX->FE->H->Option R)->Option R
 | .alt l a more,n,e,h,k=>match Nat.beq n l with
  | true=>evalCF a e h k
  | false=>evalAF more n e h k
 | _,_,_,_,_=>none
end
theorem z06q {R' R:Type}{g:R'->R}{o:Option (AX × FE × H)}{o2:Option (AX × List V × H)}{k':AX->FE->H->Option R'}{k:AX->List V->H->Option R} (ho:o.map (toLX N)=o2) (hk:∀x e l h,FR N e l->(k' x e h).map g=k x l h) :
  (o.bind fun p=>k' p.1 p.2.1 p.2.2).map g=o2.bind fun p=>k p.1 p.2.1 p.2.2:=by
 subst ho
 cases o with
 | none=>rfl
 | some p=>exact hk _ _ _ _ (FR.self _)
mutual
theorem zh3 (hl:M.loop=fun body env h=>z5x body rounds env h) (hs:M.scope=fun body l env h=>z35 body rounds l env h):∀(c:ACode) {R' R:Type} (g:R'->R) {e:FE}{l:List V} (_:FR N e l) (h:H) {k':AX->FE->H->Option R'}{k:AX->List V->H->Option R} (_:∀x e l h,FR N e l->(k' x e h).map g=k x l h),(evalCF M rounds N c e h k').map g=z0i M c l h k
 | .skip,_,_,_,_,_,hr,h,_,_,hk=>hk _ _ _ _ hr
 | .ops b,_,_,g,_,_,hr,h,_,_,hk=>zsv M g b hr h fun _ _ _ hr=>hk _ _ _ _ hr
 | .seq a b,_,_,g,_,_,hr,h,_,_,hk=>by
  unfold evalCF z0i
  refine zh3 hl hs a g hr h fun x e l h hr => ?_
  cases x with
  | normal=>exact zh3 hl hs b g hr h hk
  | _=>exact hk _ _ _ _ hr
 | .cond c a b,_,_,g,_,_,hr,h,_,_,hk=>by
  unfold evalCF z0i
  rw[hr.opd,Option.map_bind]
  congr 1
  funext x
  cases x with
  | true=>exact zh3 hl hs a g hr h hk
  | false=>exact zh3 hl hs b g hr h hk
 | .block id a,_,_,g,_,_,hr,h,_,_,hk=>by
  unfold evalCF z0i
  refine zh3 hl hs a g hr h fun x e l h hr => ?_
  cases x with
  | exit j =>
   simp only
   cases Nat.beq j id with
   | true=>exact hk _ _ _ _ hr
   | false=>exact hk _ _ _ _ hr
  | _=>exact hk _ _ _ _ hr
 | .join keep out a,R',R,g,e,l,hr,h,k',k,hk=>by
  unfold evalCF z0i
  refine z06q N ?_ hk
  refine zh3 hl hs a (toLX N) (hr.keep keep) h fun x e l h hr => ?_
  simp only[Option.map_some,toLX]; rw[(hr.keep out).toL]
 | .loop keep out a,R',R,g,e,l,hr,h,k',k,hk=>by
  unfold evalCF z0i
  rw[hl]
  refine z06q N (z0bg (fun e l h hr => ?_) rounds _ _ h (hr.keep keep)) hk
  refine zh3 hl hs a (toLX N) hr h fun x e l h hr => ?_
  cases x with
  | normal=>simp only[Option.map_some,toLX]; rw[(hr.keep keep).toL]
  | _=>simp only[Option.map_some,toLX]; rw[(hr.keep out).toL]
 | .scope keep out a alts,R',R,g,e,l,hr,h,k',k,hk=>by
  unfold evalCF z0i
  rw[hs]
  refine z06q N (z09u (fun m e l h hr => ?_) rounds 0 _ _ h hr) hk
  cases m with
  | zero =>
   refine zh3 hl hs a (toLX N) hr h fun x e l h hr => ?_
   cases x with
   | goto j=>simp only[Option.map_some,toLX]; rw[(hr.keep keep).toL]
   | _=>simp only[Option.map_some,toLX]; rw[(hr.keep out).toL]
  | succ m =>
   refine z0bp hl hs alts m (toLX N) hr h fun x e l h hr => ?_
   cases x with
   | goto j=>simp only[Option.map_some,toLX]; rw[(hr.keep keep).toL]
   | _=>simp only[Option.map_some,toLX]; rw[(hr.keep out).toL]
 | .alt _ _ _,_,_,_,_,_,_,_,_,_,_=>by
  unfold evalCF z0i
  rfl
 | .exit id,_,_,_,_,_,hr,h,_,_,hk=>hk _ _ _ _ hr
 | .goto l,_,_,_,_,_,hr,h,_,_,hk=>hk _ _ _ _ hr
 | .ret,_,_,_,_,_,hr,h,_,_,hk=>hk _ _ _ _ hr
theorem z0bp (hl:M.loop=fun body env h=>z5x body rounds env h) (hs:M.scope=fun body l env h=>z35 body rounds l env h):∀(c:ACode) (n:Nat) {R' R:Type} (g:R'->R) {e:FE}{l:List V} (_:FR N e l) (h:H) {k':AX->FE->H->Option R'}{k:AX->List V->H->Option R} (_:∀x e l h,FR N e l->(k' x e h).map g=k x l h),(evalAF M rounds N c n e h k').map g=z10 M c n l h k
 | .alt m a more,n,_,_,g,e,l,hr,h,k',k,hk=>by
  unfold evalAF z10
  cases Nat.beq n m with
  | true=>exact zh3 hl hs a g hr h hk
  | false=>exact z0bp hl hs more n g hr h hk
 | .skip,_,_,_,_,_,_,_,_,_,_,_=>by unfold evalAF z10; rfl
 | .ops _,_,_,_,_,_,_,_,_,_,_,_=>by unfold evalAF z10; rfl
 | .seq _ _,_,_,_,_,_,_,_,_,_,_,_=>by unfold evalAF z10; rfl
 | .cond _ _ _,_,_,_,_,_,_,_,_,_,_,_=>by unfold evalAF z10; rfl
 | .block _ _,_,_,_,_,_,_,_,_,_,_,_=>by unfold evalAF z10; rfl
 | .join _ _ _,_,_,_,_,_,_,_,_,_,_,_=>by unfold evalAF z10; rfl
 | .loop _ _ _,_,_,_,_,_,_,_,_,_,_,_=>by unfold evalAF z10; rfl
 | .scope _ _ _ _,_,_,_,_,_,_,_,_,_,_,_=>by unfold evalAF z10; rfl
 | .exit _,_,_,_,_,_,_,_,_,_,_,_=>by unfold evalAF z10; rfl
 | .goto _,_,_,_,_,_,_,_,_,_,_,_=>by unfold evalAF z10; rfl
 | .ret,_,_,_,_,_,_,_,_,_,_,_=>by unfold evalAF z10; rfl
end
noncomputable def resOfF (N:Nat) (e:FE) (h:H):ARes->Option V
 | .tmp t=>some (e.rd N t)
 | .cell agg n t=>match agg with
  | true=>h.ldN n (e.rd N t)
  | false=>h.ld1 (e.rd N t)
noncomputable def resAllF (N:Nat) (e:FE) (h:H):List ARes->Option (List V)
 | []=>some []
 | r :: l=>match resOfF N e h r with
  | some v=>match resAllF N e h l with
   | some vs=>some (v :: vs)
   | none=>none
  | none=>none
theorem z093 {e:FE}{l:List V} (hr:FR N e l) (h:H):∀rs,resAllF N e h rs=ztc l h rs
 | []=>rfl
 | r :: rs=>by
  unfold resAllF ztc
  have:resOfF N e h r=z010 l h r:=by
   cases r with
   | tmp t=>simp only[resOfF,z010,hr.2]
   | cell agg n t=>simp only[resOfF,z010,hr.2]; rfl
  rw[this,z093 hr h rs]; rfl
noncomputable def finF (N:Nat) (f:AFunc) (x:AX) (e:FE) (h:H):Option (V × H) :=
 match x with
 | .normal | .ret=>match resAllF N e h f.results with
  | some vs=>some (z48 vs,h)
  | none=>none
 | _=>none
noncomputable def evalFF (f:AFunc) (args:List V) (h:H):Option (V × H) :=
 match Nat.beq args.length f.nparams with
 | true=>evalCF M rounds (args.length+(f.ntmps-args.length)) f.body (z06y args 0) h fun x e h=>finF (args.length+(f.ntmps-args.length)) f x e h
 | false=>none
theorem z0bx (hl:M.loop=fun body env h=>z5x body rounds env h) (hs:M.scope=fun body l env h=>z35 body rounds l env h) (f:AFunc) (args:List V) (h:H):evalFF M rounds f args h=z06 M f args h:=by
 unfold evalFF z06
 cases Nat.beq args.length f.nparams with
 | false=>rfl
 | true =>
  have:=zh3 M rounds _ hl hs f.body id (FR.start args (f.ntmps-args.length)) h (k':=fun x e h=>finF (args.length+(f.ntmps-args.length)) f x e h) (k:=fun x env h=>fin f x env h) (fun x e l h hr=>by
   rw[Option.map_id,id_eq]
   unfold finF fin
   rw[z093 _ hr]; rfl)
  rw[Option.map_id,id_eq] at this
  exact this
noncomputable def callFF (f:AFunc) (args:List V) (h:H):Option (V × H) :=
 match f.closed with
 | false=>evalFF M rounds f args h
 | true=>match V.flats args with
  | true=>(evalFF M rounds f args .empty).bind fun p=>match V.flat p.1 with
   | true=>some (p.1,h)
   | false=>none
  | false=>none
theorem z0it (hl:M.loop=fun body env h=>z5x body rounds env h) (hs:M.scope=fun body l env h=>z35 body rounds l env h) (f:AFunc) (args:List V) (h:H):callFF M rounds f args h=zeq M f args h:=by
 unfold callFF zeq
 rw[z0bx M rounds hl hs,z0bx M rounds hl hs]; rfl
end
noncomputable def runF (prog:Nat->Option AFunc) (meth:Nat->Nat->Option Nat) (rounds:Nat):Nat->Nat->List V->H->Option (V × H)
 | 0,_,_,_=>none
 | n+1,f,args,h=>match prog f with
  | some af=>callFF { call:=runF prog meth rounds n,loop:=fun body env h=>z5x body rounds env h,scope:=fun body l env h=>z35 body rounds l env h,meth } rounds af args h
  | none=>none
theorem z02a (prog:Nat->Option AFunc) (meth:Nat->Nat->Option Nat) (rounds:Nat):∀n,runF prog meth rounds n=run prog meth rounds n
 | 0=>rfl
 | n+1=>by
  funext f args h
  unfold runF run
  rw[z02a prog meth rounds n]
  cases prog f with
  | none=>rfl
  | some af=>exact z0it _ _ rfl rfl _ _ _
end Wm
