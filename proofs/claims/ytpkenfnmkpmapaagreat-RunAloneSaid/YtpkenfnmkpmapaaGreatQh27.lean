import Derived.Test.YtpkenfnmkpmapaaGreatQh21
namespace Go.Proofs.YtpkenfnmkpmapaaGreat.Em
open Go.ChangeShapes Go.WideShapes Go.ChangeAt Go.RowKit
set_option linter.unusedVariables false
set_option linter.unusedSimpArgs false
set_option maxRecDepth 100000
set_option maxHeartbeats 1600000
theorem mask_to (x:Int) (m:Nat) (hm:0<m):∃ n:Nat,n<m∧(bits .and .i64 x 255).tmod (m:Int)=(n:Int):=by
 rw[Bt.i64_and255];have h0:0≤x % 256:=Int.emod_nonneg _ (by decide);have h1:=Int.tmod_nonneg (m:Int) h0;have h2:=Int.tmod_lt_of_pos (x % 256) (b:=(m:Int)) (by omega);exact⟨((x % 256).tmod m).toNat,by omega,by omega⟩
theorem row_new' (w:World) (xs:List Value) (T:TypeId) (n size g:Nat) (hg:g=w.heap.size) (hl:xs.length=n*size) (hn:n≤1000000):Ow.Row (w.alloc (.cells xs.toArray T)) 0 size (.slice (some ⟨g,0,none⟩) n n) xs:=by
 subst hg;exact row_new w xs T n size hl hn
end Go.Proofs.YtpkenfnmkpmapaaGreat.Em
namespace Go.Proofs.YtpkenfnmkpmapaaGreat.Em
open Go.ChangeShapes Go.WideShapes Go.ChangeAt Go.RowKit En
set_option linter.unusedVariables false
set_option linter.unusedSimpArgs false
set_option maxRecDepth 100000
set_option maxHeartbeats 1600000
def opI (k key hi v:Int):Bool:=
 if k=1∨k=4 then decide (0≤key)&&decide (key≤63)&&(hi==0)&&(v==0)
 else if k=2∨k=3 then decide (0≤key)&&decide (key≤63)&&(hi==0)&&decide (0≤v)&&decide (v≤65535)
 else if k=5 then decide (0≤key)&&decide (key≤63)&&decide (key≤hi)&&decide (hi≤63)&&(v==0)
 else if k=6∨k=7 then (key==0)&&(hi==0)&&(v==0) else false
theorem opI_cast (o:En.Op):opI o.kind o.key o.hi o.value=opOk o:=by
 obtain⟨k,key,hi,v⟩:=o;unfold opI opOk;simp only;rw[Bool.eq_iff_iff]
 match k with
 |0=>simp
 |1|2|3|4|5|6|7=>simp;try omega
 |k+8=>rw[if_neg (by omega),if_neg (by omega),if_neg (by omega),if_neg (by omega)];split<;>first|omega|exact Iff.rfl
theorem opI_of {k key hi v:Int} (h:opI k key hi v=true):∃ o:En.Op,k=o.kind∧key=o.key∧hi=o.hi∧v=o.value∧opOk o=true:=by
 have hh:=h;unfold opI at h;have h0:0≤k∧0≤key∧0≤hi∧0≤v:=by
  split at h
  · simp at h;omega
  split at h
  · simp at h;omega
  split at h
  · simp at h;omega
  split at h
  · simp at h;omega
  · cases h
 refine⟨⟨k.toNat,key.toNat,hi.toNat,v.toNat⟩,by simp;omega,by simp;omega,by simp;omega,by simp;omega,?_⟩;rw[←opI_cast];simp only;rw[Int.toNat_of_nonneg h0.1,Int.toNat_of_nonneg h0.2.1,Int.toNat_of_nonneg h0.2.2.1,Int.toNat_of_nonneg h0.2.2.2];exact hh
theorem modOpOk_any (k key hi v:Int) (w:World):Calls Tryz.prog 66 #[.agg #[zi k,zi key,zi hi,zi v]] w fun e w'=>e=.returned (.bool (opI k key hi v))∧Below w.heap.size w w':=by
 have HB:=zH ((Below.refl _ w).alloc (Nat.le_refl _) (.cells #[zi k,zi key,zi hi,zi v] 29));go_enter Tryz.func66,Tryz.ntmps66;go_wp2
 all_goals (
  subst_vars
  go_ret
  refine⟨congrArg (fun b=>Ending.returned (Value.bool b)) ?_,HB.out⟩
  rw[Bool.eq_iff_iff]
  unfold opI
  (repeat' split)<;>(try simp_all)<;>(try omega))
theorem refOpOk_any (k key hi v:Int) (w:World):Calls Tryz.prog 21 #[.agg #[zi k,zi key,zi hi,zi v]] w fun e w'=>e=.returned (.bool (opI k key hi v))∧Below w.heap.size w w':=by
 have HB:=zH ((Below.refl _ w).alloc (Nat.le_refl _) (.cells #[zi k,zi key,zi hi,zi v] 29));go_enter Tryz.func21,Tryz.ntmps21;go_wp2
 all_goals (
  subst_vars
  go_ret
  refine⟨congrArg (fun b=>Ending.returned (Value.bool b)) ?_,HB.out⟩
  rw[Bool.eq_iff_iff]
  unfold opI
  (repeat' split)<;>(try simp_all)<;>(try omega))
end Go.Proofs.YtpkenfnmkpmapaaGreat.Em
