import Derived.Test.YthicolbbmjfkfaaGreatQn17
set_option linter.unusedVariables false
set_option linter.unusedSimpArgs false
set_option maxRecDepth 100000
set_option maxHeartbeats 1600000
namespace Go.Proofs.YthicolbbmjfkfaaGreat.Em
open Go.ChangeShapes Go.WideShapes Go.ChangeAt Go.RowKit En
def Nv (k F hi v:Int):Bool:=
 if k=1∨k=4 then decide (0<=F)&&decide (F<=63)&&(hi==0)&&(v==0)
 else if k=2∨k=3 then decide (0<=F)&&decide (F<=63)&&(hi==0)&&decide (0<=v)&&decide (v<=65535)
 else if k=5 then decide (0<=F)&&decide (F<=63)&&decide (F<=hi)&&decide (hi<=63)&&(v==0)
 else if k=6∨k=7 then (F==0)&&(hi==0)&&(v==0) else false
theorem MW (o:En.Op):Nv o.kind o.F o.hi o.value=p9 o:=by
 obtain⟨k,F,hi,v⟩:=o;unfold Nv p9;simp only;rw[Bool.eq_iff_iff]
 match k with
 |0=>simp
 |1|2|3|4|5|6|7=>simp;try omega
 |k+8=>rw[aR (by omega),aR (by omega),aR (by omega),aR (by omega)];split<;>first|omega|exact Iff.rfl
theorem Si {k F hi v:Int} (h:Nv k F hi v=true):∃ o:En.Op,k=o.kind∧F=o.F∧hi=o.hi∧v=o.value∧p9 o=true:=by
 have hh:=h;unfold Nv at h;have h0:0<=k∧0<=F∧0<=hi∧0<=v:=by
  split at h
  . simp at h;omega
  split at h
  . simp at h;omega
  split at h
  . simp at h;omega
  split at h
  . simp at h;omega
  . cases h
 refine⟨⟨k.toNat,F.toNat,hi.toNat,v.toNat⟩,by simp;omega,by simp;omega,by simp;omega,by simp;omega,?_⟩;rw[<-MW];simp only;rw[Int.toNat_of_nonneg h0.1,Int.toNat_of_nonneg h0.2.1,Int.toNat_of_nonneg h0.2.2.1,Int.toNat_of_nonneg h0.2.2.2];exact hh
theorem EX (k F hi v:Int) (w:World):zk 68 #[.agg #[I k,I F,I hi,I v]] w fun e E=>e=.returned (.bool (Nv k F hi v))∧Below w.heap.size w E:=by
 have HB:=zH ((Below.refl _ w).alloc (zr _) (.cells #[I k,I F,I hi,I v] 27));go_enter Tryz.func68,Tryz.ntmps68;go_wp2
 all_goals (
  subst_vars
  go_ret
  refine⟨congrArg (fun b=>Ending.returned (Value.bool b)) ?_,HB.out⟩
  rw[Bool.eq_iff_iff]
  unfold Nv
  (repeat' split)<;>(try simp_all)<;>(try omega))
theorem J8 {w:World} {g off:Nat} {l:List Pk} (h:∀ j,j<l.length*7->w.cell? (J g (off+j))=(qD l)[j]?) (i:Nat) (e:Pk) (hi:l[i]? =some e):
 ∀ f,f<7->w.cell? (J g (off+(i*7+f)))=(ru e)[f]? :=by
 intro f hf;have hl:i<l.length:=(List.getElem?_eq_some_iff.1 hi).1;rw[h (i*7+f) (by omega)];have F:∀ (l:List Pk) (i:Nat),l[i]? =some e->(qD l)[i*7+f]? =(ru e)[f]? :=by
  intro l
  induction l with
  |nil=>intro i hi;simp at hi
  |cons e0 l ih=>
   intro i hi;show (ru e0++qD l)[i*7+f]? =_
   cases i with
   |zero=>
    simp at hi;subst hi;rw[List.getElem?_append_left (by show 0*7+f<7;omega)];simp
   |succ i=>
    rw[Qx (by show 7<=_;omega)];rw[show (i+1)*7+f - (ru e0).length=i*7+f from by show _ - 7=_;omega];exact ih i (by simpa using hi)
 exact F l i hi
theorem J9 {w:World} {v:Value} {l:List Pk} (h:Ow.Row w 0 7 v (qD l)):∃ a cap,v=.slice a l.length cap∧l.length<=9223372036854775807∧∀ i e,l[i]? =some e->∃ g off,a=za g off∧∀ E,Below w.heap.size w E->∀ f u,f<7->(ru e)[f]? =some u->E.cell? (J g (off+(i*7+f)))=some u:=by
 obtain⟨a,n,cap,rfl,hn,hc,hm,h5⟩:=h;rw[tT] at hn;obtain rfl:n=l.length:=by omega
 unfold maxLen at hm;refine⟨a,cap,rfl,by omega,fun i e hi=>?_⟩;have hl:i<l.length:=(List.getElem?_eq_some_iff.1 hi).1
 rcases h5 with h5|⟨g,off,rfl,_,hg,hcell⟩
 . omega
 . refine⟨g,off,rfl,fun E hb f u hf hu=>?_⟩
   rw[hb.cell (p:=(J g (off+(i*7+f)))) hg,J8 hcell i e hi f hf,hu]
theorem MX {w E:World} {o:Obj} (hb:Below (w.alloc o).heap.size (w.alloc o) E):E.heap[w.heap.size]? =some o:=by
 have h:w.heap.size<(w.alloc o).heap.size:=by simp
 rw[hb.block w.heap.size h];show (w.heap.push o)[w.heap.size]? =_;exact Array.getElem?_push_size
theorem oU {w E:World} {o:Obj} (hb:Below (w.alloc o).heap.size (w.alloc o) E):Below w.heap.size w E:=
 ((Below.refl _ w).alloc (zr _) o).trans (hb.mono (by simp))
end Go.Proofs.YthicolbbmjfkfaaGreat.Em
