import Derived.Test.YthicolbbmjfkfaaGreatQf18
set_option linter.unusedVariables false
set_option linter.unusedSimpArgs false
set_option maxRecDepth 100000
set_option maxHeartbeats 1600000
namespace Go.Proofs.YthicolbbmjfkfaaGreat.Em
open Go.ChangeShapes Go.WideShapes Go.ChangeAt Go.RowKit En
def BX (k F hi v:Int):Bool:=
 if k=1∨k=4 then decide (0<=F)&&decide (F<=63)&&(hi==0)&&(v==0)
 else if k=2∨k=3 then decide (0<=F)&&decide (F<=63)&&(hi==0)&&decide (0<=v)&&decide (v<=65535)
 else if k=5 then decide (0<=F)&&decide (F<=63)&&decide (F<=hi)&&decide (hi<=63)&&(v==0)
 else if k=6∨k=7 then (F==0)&&(hi==0)&&(v==0) else false
theorem K6 (o:En.Op):BX o.kind o.F o.hi o.value=nX o:=by
 obtain⟨k,F,hi,v⟩:=o;unfold BX nX;simp only;rw[Bool.eq_iff_iff]
 match k with
 |0=>simp
 |1|2|3|4|5|6|7=>simp;try omega
 |k+8=>rw[bu (by omega),bu (by omega),bu (by omega),bu (by omega)];split<;>first|omega|exact Iff.rfl
theorem Q4 {k F hi v:Int} (h:BX k F hi v=true):∃ o:En.Op,k=o.kind∧F=o.F∧hi=o.hi∧v=o.value∧nX o=true:=by
 have hh:=h;unfold BX at h;have h0:0<=k∧0<=F∧0<=hi∧0<=v:=by
  split at h
  . simp at h;omega
  split at h
  . simp at h;omega
  split at h
  . simp at h;omega
  split at h
  . simp at h;omega
  . cases h
 refine⟨⟨k.toNat,F.toNat,hi.toNat,v.toNat⟩,by simp;omega,by simp;omega,by simp;omega,by simp;omega,?_⟩;rw[<-K6];simp only;rw[Int.toNat_of_nonneg h0.1,Int.toNat_of_nonneg h0.2.1,Int.toNat_of_nonneg h0.2.2.1,Int.toNat_of_nonneg h0.2.2.2];exact hh
theorem DK (k F hi v:Int) (w:World):zk 68 #[.agg #[I k,I F,I hi,I v]] w fun e E=>e=.returned (.bool (BX k F hi v))∧Below w.heap.size w E:=by
 have HB:=U ((Below.refl _ w).alloc (zr _) (.cells #[I k,I F,I hi,I v] 27));go_enter Tryz.func68,Tryz.ntmps68;go_wp2
 all_goals (
  subst_vars
  go_ret
  refine⟨congrArg (fun b=>Ending.returned (Value.bool b)) ?_,HB.out⟩
  rw[Bool.eq_iff_iff]
  unfold BX
  (repeat' split)<;>(try simp_all)<;>(try omega))
theorem DL (k F hi v:Int) (w:World):zk 84 #[.agg #[I k,I F,I hi,I v]] w fun e E=>e=.returned (.bool (BX k F hi v))∧Below w.heap.size w E:=by
 have HB:=U ((Below.refl _ w).alloc (zr _) (.cells #[I k,I F,I hi,I v] 27));go_enter Tryz.func84,Tryz.ntmps84;go_wp2
 all_goals (
  subst_vars
  go_ret
  refine⟨congrArg (fun b=>Ending.returned (Value.bool b)) ?_,HB.out⟩
  rw[Bool.eq_iff_iff]
  unfold BX
  (repeat' split)<;>(try simp_all)<;>(try omega))
end Go.Proofs.YthicolbbmjfkfaaGreat.Em
