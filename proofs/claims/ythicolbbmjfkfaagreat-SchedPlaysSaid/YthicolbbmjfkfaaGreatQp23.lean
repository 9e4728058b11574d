import Derived.Test.YthicolbbmjfkfaaGreatQp21
namespace Go.Proofs.YthicolbbmjfkfaaGreat.Em
open Go.ChangeShapes Go.WideShapes Go.ChangeAt Go.RowKit En
set_option linter.unusedVariables false
set_option linter.unusedSimpArgs false
set_option maxRecDepth 100000
set_option maxHeartbeats 1600000
theorem pick_cell {w:World} {g off:Nat} {l:List Pk} (h:∀ j,j<l.length*7→w.cell? ⟨g,off+j,none⟩=(flatP l)[j]?) (i:Nat) (e:Pk) (hi:l[i]? =some e):
 ∀ f,f<7→w.cell? ⟨g,off+(i*7+f),none⟩=(pkCs e)[f]? :=by
 intro f hf;have hl:i<l.length:=(List.getElem?_eq_some_iff.1 hi).1;rw[h (i*7+f) (by omega)];have key:∀ (l:List Pk) (i:Nat),l[i]? =some e→(flatP l)[i*7+f]? =(pkCs e)[f]? :=by
  intro l
  induction l with
  |nil=>intro i hi;simp at hi
  |cons e0 l ih=>
   intro i hi;show (pkCs e0++flatP l)[i*7+f]? =_
   cases i with
   |zero=>
    simp at hi;subst hi;rw[List.getElem?_append_left (by show 0*7+f<7;omega)];simp
   |succ i=>
    rw[List.getElem?_append_right (by show 7≤_;omega)];rw[show (i+1)*7+f - (pkCs e0).length=i*7+f from by show _ - 7=_;omega];exact ih i (by simpa using hi)
 exact key l i hi
theorem row_picks {w:World} {v:Value} {l:List Pk} (h:Ow.Row w 0 7 v (flatP l)):∃ a cap,v=.slice a l.length cap∧l.length≤9223372036854775807∧∀ i e,l[i]? =some e→∃ g off,a=some ⟨g,off,none⟩∧∀ w',Below w.heap.size w w'→∀ f u,f<7→(pkCs e)[f]? =some u→w'.cell? ⟨g,off+(i*7+f),none⟩=some u:=by
 obtain⟨a,n,cap,rfl,hn,hc,hm,h5⟩:=h;rw[flatP_length] at hn;obtain rfl:n=l.length:=by omega
 unfold maxLen at hm;refine⟨a,cap,rfl,by omega,fun i e hi=>?_⟩;have hl:i<l.length:=(List.getElem?_eq_some_iff.1 hi).1
 rcases h5 with h5|⟨g,off,rfl,_,hg,hcell⟩
 · omega
 · refine⟨g,off,rfl,fun w' hb f u hf hu=>?_⟩
   rw[hb.cell (p:=⟨g,off+(i*7+f),none⟩) hg,pick_cell hcell i e hi f hf,hu]
theorem box_below {w w':World} {o:Obj} (hb:Below (w.alloc o).heap.size (w.alloc o) w'):Below w.heap.size w w':=
 ((Below.refl _ w).alloc (Nat.le_refl _) o).trans (hb.mono (by simp))
def opI (k key hi v:Int):Bool:=
 if k=1∨k=4 then decide (0≤key)&&decide (key≤63)&&(hi==0)&&(v==0)
 else if k=2∨k=3 then decide (0≤key)&&decide (key≤63)&&(hi==0)&&decide (0≤v)&&decide (v≤65535)
 else if k=5 then decide (0≤key)&&decide (key≤63)&&decide (key≤hi)&&decide (hi≤63)&&(v==0)
 else if k=6∨k=7 then (key==0)&&(hi==0)&&(v==0) else false
theorem opI_cast (o:En.Op):opI o.kind o.key o.hi o.value=opOk o:=by
 obtain⟨k,key,hi,v⟩:=o;unfold opI opOk;simp only;rw[Bool.eq_iff_iff]
 match k with
 |0=>simp
 |1|2|3|4|5|6|7=>simp;try omega
 |k+8=>rw[if_neg (by omega),if_neg (by omega),if_neg (by omega),if_neg (by omega)];split<;>first|omega|exact Iff.rfl
theorem opI_of {k key hi v:Int} (h:opI k key hi v=true):∃ o:En.Op,k=o.kind∧key=o.key∧hi=o.hi∧v=o.value∧opOk o=true:=by
 have hh:=h;unfold opI at h;have h0:0≤k∧0≤key∧0≤hi∧0≤v:=by
  split at h
  · simp at h;omega
  split at h
  · simp at h;omega
  split at h
  · simp at h;omega
  split at h
  · simp at h;omega
  · cases h
 refine⟨⟨k.toNat,key.toNat,hi.toNat,v.toNat⟩,by simp;omega,by simp;omega,by simp;omega,by simp;omega,?_⟩;rw[←opI_cast];simp only;rw[Int.toNat_of_nonneg h0.1,Int.toNat_of_nonneg h0.2.1,Int.toNat_of_nonneg h0.2.2.1,Int.toNat_of_nonneg h0.2.2.2];exact hh
theorem modOpOk_any (k key hi v:Int) (w:World):Calls Tryz.prog 68 #[.agg #[zi k,zi key,zi hi,zi v]] w fun e w'=>e=.returned (.bool (opI k key hi v))∧Below w.heap.size w w':=by
 have HB:=zH ((Below.refl _ w).alloc (Nat.le_refl _) (.cells #[zi k,zi key,zi hi,zi v] 27));go_enter Tryz.func68,Tryz.ntmps68;go_wp2
 all_goals (
  subst_vars
  go_ret
  refine⟨congrArg (fun b=>Ending.returned (Value.bool b)) ?_,HB.out⟩
  rw[Bool.eq_iff_iff]
  unfold opI
  (repeat' split)<;>(try simp_all)<;>(try omega))
end Go.Proofs.YthicolbbmjfkfaaGreat.Em
