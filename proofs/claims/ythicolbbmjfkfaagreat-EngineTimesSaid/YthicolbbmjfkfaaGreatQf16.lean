import Derived.Test.YthicolbbmjfkfaaGreatQf15
set_option linter.unusedVariables false
set_option linter.unusedSimpArgs false
set_option maxRecDepth 100000
set_option maxHeartbeats 1600000
namespace Go.Proofs.YthicolbbmjfkfaaGreat.Em
open Go.ChangeShapes Go.WideShapes Go.ChangeAt Go.RowKit En
theorem bZ {P:Program} {w:World} {ops:Array Oper} {rest:List Oper} {o:Oper} {a:Act} {Q:Exit->Act->World->Prop} (hg:o.guard=none) (x ix:Operand) (ty:TypeId) (hop:o.op=.index ty x ix) {v:Value} (aU:(Instr.index ty (a.eval x) (a.eval ix)).run P w=.ok v w)
 (hK:wpList P ops Q rest (a.put o.dst v) w):wpList P ops Q (o::rest) a w:=by
 refine wpList_plain hg fun K' hK'=>?_
 unfold Oper.wp;simp[execOp,hop,aU,Result.andThen];exact hK' _ _ hK
theorem qw {ops:Array Oper} {rest:List Oper} {o:Oper} {a:Act} {Q:Exit->Act->World->Prop} (w:World) (hgd:o.guard=none) (s x:Operand)
 (ho:o.op=.call {callee:=.builtin .append,args:=#[s,x],argTypes:=#[36,36]})
 (w0:World) (Z:Below w0.heap.size w0 w) (av:Option Addr) (m cap:Nat) (xs:List Value) (hs:a.eval s=.slice av m cap) (aY:w.ownsRow w0.heap.size 3 1 (.slice av m cap) m xs) (hm:m<4000000)
 (t0:Int) (hx:a.eval x=.slice (some (J w.heap.size 0)) 1 1)
 (h:∀ AR cap' E,E.ownsRow w0.heap.size 3 1 (.slice AR (m+1) cap') (m+1) (xs++[I t0])->Below w0.heap.size w0 E->wpList Tryz.prog ops Q rest (a.put o.dst (.slice AR (m+1) cap')) E):
 wpList Tryz.prog ops Q (o::rest) a (w.alloc (.cells #[I t0] 3)):=by
 obtain⟨ii,hii,hz0,hz1,hz2⟩:=info_parts Cs;have hw:=Z.size;have hown':(w.alloc (.cells #[I t0] 3)).ownsRow w0.heap.size 3 1 (.slice av m cap) m xs:=lV aY fun g hg=>Below.heap_alloc _ _ _ (aY.lt g hg).2
 refine Ow.dZ _ hgd s x 36 ho w0.heap.size 3 ii _ 1 8 Tryz.underlying36 hii hz0 hz1 hz2 rfl (by decide) (.slice av m cap) m xs hs hown' (J w.heap.size 0) 1 1 (by omega) [I t0] hx rfl (fun j u hu=>Ow.iC w [I t0] _ _ rfl j u hu) (by intro u hu;simp at hu;subst hu;rfl) (by unfold maxLen;omega) (by omega) (by simp;omega) ?_;intro v' E q1 q2 q3;obtain⟨AR,cap',rfl,_⟩:=Ow.bO q1;exact h AR cap' E q1 ((Z.alloc hw _).grown q2 (by simp;omega) (fun g hg=>(aY.lt g hg).1))
def dx (D:St) (k:Nat):List Nat:=(List.range k).filter fun s=>(D.ai.getD s none).isSome
theorem Du (D:St) (k:Nat):dx D (k+1)=dx D k++(if (D.ai.getD k none).isSome then [k] else []):=by
 unfold dx;rw[List.range_succ,List.filter_append]
 congr 1
 simp only[List.filter_cons,List.filter_nil]
theorem IZ (D:St) (k:Nat):(dx D k).length<=k:=by
 unfold dx;have:=List.length_filter_le (fun s=>(D.ai.getD s none).isSome) (List.range k)
 simpa using this
theorem Dv {A:az} {D:St} {w:World} (hR:aF A D w):
 zk 13 #[R A.V 0] w fun e E=>∃ av cap,e=.returned (.slice av D.live.length cap)∧E.ownsRow w.heap.size 3 1 (.slice av D.live.length cap) D.live.length (D.live.map i64)∧Below w.heap.size w E:=by
 have hE:∀ k:Nat,k<8->w.cell? (J A.V (5+k))=some (A.tp D k):=fun k Y=>hR.bT (5+k) (dQ A D Y)
 have e0:=hE 0 (by omega);have e1:=hE 1 (by omega);have e2:=hE 2 (by omega);have e3:=hE 3 (by omega);have e4:=hE 4 (by omega);have e5:=hE 5 (by omega);have e6:=hE 6 (by omega);have e7:=hE 7 (by omega);have hls:D.live=dx D 8:=rfl;rw[hls];obtain⟨tv,JJ⟩:∃ tv:Nat->Option Addr,∀ k,A.tp D k=.pointer (tv k)∧((tv k).isSome=(D.ai.getD k none).isSome):=by
  refine⟨fun k=>if (D.ai.getD k none).isSome=true then some (J (A.bt k) 0) else none,fun k=>?_⟩;unfold az.tp;dsimp only;generalize D.ai.getD k none=ot
  cases ot<;>exact⟨rfl,rfl⟩
 rw[(JJ 0).1] at e0;rw[(JJ 1).1] at e1;rw[(JJ 2).1] at e2;rw[(JJ 3).1] at e3;rw[(JJ 4).1] at e4;rw[(JJ 5).1] at e5;rw[(JJ 6).1] at e6;rw[(JJ 7).1] at e7;have YC:=U (fun k=>(JJ k).2);clear hE hR hls JJ;go_enter Tryz.func13,Tryz.ntmps13;go_wp2
 go_loopw [3,10] (fun l i wr=>∃ k:Nat,k<=8∧i=I k∧Below w.heap.size w wr∧∃ av cap,l=.slice av (dx D k).length cap∧wr.ownsRow w.heap.size 3 1 l (dx D k).length ((dx D k).map i64)) (fun _ i _=>8 - (intOf i).toNat)
 case atStart=>exact⟨0,by omega,rfl,Below.refl _ _,none,0,rfl,rfl,.inl ⟨rfl,rfl⟩⟩
 case round=>
  obtain⟨k,Y,rfl,Z,av,cap,rfl,aY⟩:=hrel;have hm0:=IZ D k;have hsu:=Du D k;generalize hll:(dx D k).length=m at*;generalize hxs:(dx D k).map i64=xs at*;have hT:=YC.out k;have HS:=U (zA hsu (zA hll (zA hxs Y)));clear hsu hll hxs
  by_cases hlt:k<8
  . have n1:IntKind.i64.wrap ((k:Int)+1)=(k:Int)+1:=by rw[je];omega
    have hm1:m<4000000:=by omega
    clear hm0 Y
    match k,hlt with
    |0,_=>
     cases hv:tv 0 with
     |none=>
      rw[hv] at hT;have ng:(D.ai.getD 0 none).isSome=false:=hT.symm;rw[hv] at e0;have hnew:dx D (0+1)=dx D 0:=by rw[HS.out.1,ng];simp
      have HN:=U hnew;have hix:∀ E,(Instr.index 104 (.agg #[.pointer none,.pointer (tv 1),.pointer (tv 2),.pointer (tv 3),.pointer (tv 4),.pointer (tv 5),.pointer (tv 6),.pointer (tv 7)]) (I ((0:Nat):Int))).run Tryz.prog E=.ok (.pointer none) E:=fun E=>by kernel_rfl
      have HO:=U (zA aY Z);clear hT ng hnew aY Z;go_wp2_with (refine bZ rfl (.tmp 9) (.tmp 10) 104 rfl (hix _) ?_)
      go_roundw
      case rel=>exact⟨0+1,by omega,rfl,HO.out.2,av,cap,by rw[HN.out,HS.out.2.1],by rw[HN.out,HS.out.2.1,HS.out.2.2.1];exact HO.out.1⟩
      case measure=>simp[intOf]
     |some ad=>
      rw[hv] at hT;have ng:(D.ai.getD 0 none).isSome=true:=hT.symm;rw[hv] at e0;have hnew:dx D (0+1)=dx D 0++[0]:=by rw[HS.out.1,ng];simp
      have HN:=U hnew;have hix:∀ E,(Instr.index 104 (.agg #[.pointer (some ad),.pointer (tv 1),.pointer (tv 2),.pointer (tv 3),.pointer (tv 4),.pointer (tv 5),.pointer (tv 6),.pointer (tv 7)]) (I ((0:Nat):Int))).run Tryz.prog E=.ok (.pointer (some ad)) E:=fun E=>by kernel_rfl
      clear hT ng hnew;go_wp2_with (first|(refine bZ rfl (.tmp 9) (.tmp 10) 104 rfl (hix _) ?_)|(refine qw _ rfl _ _ rfl w (by assumption) _ _ _ _ rfl (by assumption) (by omega) _ rfl ?_;intro mI gK wl ql pl))
      go_roundw
      case rel=>exact⟨0+1,by omega,rfl,pl,mI,gK,by rw[HN.out,jb,HS.out.2.1];rfl,by rw[HN.out,jb,HS.out.2.1,List.map_append,HS.out.2.2.1];exact ql⟩
      case measure=>simp[intOf]
    |1,_=>
     cases hv:tv 1 with
     |none=>
      rw[hv] at hT;have ng:(D.ai.getD 1 none).isSome=false:=hT.symm;rw[hv] at e1;have hnew:dx D (1+1)=dx D 1:=by rw[HS.out.1,ng];simp
      have HN:=U hnew;have hix:∀ E,(Instr.index 104 (.agg #[.pointer (tv 0),.pointer none,.pointer (tv 2),.pointer (tv 3),.pointer (tv 4),.pointer (tv 5),.pointer (tv 6),.pointer (tv 7)]) (I ((1:Nat):Int))).run Tryz.prog E=.ok (.pointer none) E:=fun E=>by kernel_rfl
      have HO:=U (zA aY Z);clear hT ng hnew aY Z;go_wp2_with (refine bZ rfl (.tmp 9) (.tmp 10) 104 rfl (hix _) ?_)
      go_roundw
      case rel=>exact⟨1+1,by omega,rfl,HO.out.2,av,cap,by rw[HN.out,HS.out.2.1],by rw[HN.out,HS.out.2.1,HS.out.2.2.1];exact HO.out.1⟩
      case measure=>simp[intOf]
     |some ad=>
      rw[hv] at hT;have ng:(D.ai.getD 1 none).isSome=true:=hT.symm;rw[hv] at e1;have hnew:dx D (1+1)=dx D 1++[1]:=by rw[HS.out.1,ng];simp
      have HN:=U hnew;have hix:∀ E,(Instr.index 104 (.agg #[.pointer (tv 0),.pointer (some ad),.pointer (tv 2),.pointer (tv 3),.pointer (tv 4),.pointer (tv 5),.pointer (tv 6),.pointer (tv 7)]) (I ((1:Nat):Int))).run Tryz.prog E=.ok (.pointer (some ad)) E:=fun E=>by kernel_rfl
      clear hT ng hnew;go_wp2_with (first|(refine bZ rfl (.tmp 9) (.tmp 10) 104 rfl (hix _) ?_)|(refine qw _ rfl _ _ rfl w (by assumption) _ _ _ _ rfl (by assumption) (by omega) _ rfl ?_;intro mI gK wl ql pl))
      go_roundw
      case rel=>exact⟨1+1,by omega,rfl,pl,mI,gK,by rw[HN.out,jb,HS.out.2.1];rfl,by rw[HN.out,jb,HS.out.2.1,List.map_append,HS.out.2.2.1];exact ql⟩
      case measure=>simp[intOf]
    |2,_=>
     cases hv:tv 2 with
     |none=>
      rw[hv] at hT;have ng:(D.ai.getD 2 none).isSome=false:=hT.symm;rw[hv] at e2;have hnew:dx D (2+1)=dx D 2:=by rw[HS.out.1,ng];simp
      have HN:=U hnew;have hix:∀ E,(Instr.index 104 (.agg #[.pointer (tv 0),.pointer (tv 1),.pointer none,.pointer (tv 3),.pointer (tv 4),.pointer (tv 5),.pointer (tv 6),.pointer (tv 7)]) (I ((2:Nat):Int))).run Tryz.prog E=.ok (.pointer none) E:=fun E=>by kernel_rfl
      have HO:=U (zA aY Z);clear hT ng hnew aY Z;go_wp2_with (refine bZ rfl (.tmp 9) (.tmp 10) 104 rfl (hix _) ?_)
      go_roundw
      case rel=>exact⟨2+1,by omega,rfl,HO.out.2,av,cap,by rw[HN.out,HS.out.2.1],by rw[HN.out,HS.out.2.1,HS.out.2.2.1];exact HO.out.1⟩
      case measure=>simp[intOf]
     |some ad=>
      rw[hv] at hT;have ng:(D.ai.getD 2 none).isSome=true:=hT.symm;rw[hv] at e2;have hnew:dx D (2+1)=dx D 2++[2]:=by rw[HS.out.1,ng];simp
      have HN:=U hnew;have hix:∀ E,(Instr.index 104 (.agg #[.pointer (tv 0),.pointer (tv 1),.pointer (some ad),.pointer (tv 3),.pointer (tv 4),.pointer (tv 5),.pointer (tv 6),.pointer (tv 7)]) (I ((2:Nat):Int))).run Tryz.prog E=.ok (.pointer (some ad)) E:=fun E=>by kernel_rfl
      clear hT ng hnew;go_wp2_with (first|(refine bZ rfl (.tmp 9) (.tmp 10) 104 rfl (hix _) ?_)|(refine qw _ rfl _ _ rfl w (by assumption) _ _ _ _ rfl (by assumption) (by omega) _ rfl ?_;intro mI gK wl ql pl))
      go_roundw
      case rel=>exact⟨2+1,by omega,rfl,pl,mI,gK,by rw[HN.out,jb,HS.out.2.1];rfl,by rw[HN.out,jb,HS.out.2.1,List.map_append,HS.out.2.2.1];exact ql⟩
      case measure=>simp[intOf]
    |3,_=>
     cases hv:tv 3 with
     |none=>
      rw[hv] at hT;have ng:(D.ai.getD 3 none).isSome=false:=hT.symm;rw[hv] at e3;have hnew:dx D (3+1)=dx D 3:=by rw[HS.out.1,ng];simp
      have HN:=U hnew;have hix:∀ E,(Instr.index 104 (.agg #[.pointer (tv 0),.pointer (tv 1),.pointer (tv 2),.pointer none,.pointer (tv 4),.pointer (tv 5),.pointer (tv 6),.pointer (tv 7)]) (I ((3:Nat):Int))).run Tryz.prog E=.ok (.pointer none) E:=fun E=>by kernel_rfl
      have HO:=U (zA aY Z);clear hT ng hnew aY Z;go_wp2_with (refine bZ rfl (.tmp 9) (.tmp 10) 104 rfl (hix _) ?_)
      go_roundw
      case rel=>exact⟨3+1,by omega,rfl,HO.out.2,av,cap,by rw[HN.out,HS.out.2.1],by rw[HN.out,HS.out.2.1,HS.out.2.2.1];exact HO.out.1⟩
      case measure=>simp[intOf]
     |some ad=>
      rw[hv] at hT;have ng:(D.ai.getD 3 none).isSome=true:=hT.symm;rw[hv] at e3;have hnew:dx D (3+1)=dx D 3++[3]:=by rw[HS.out.1,ng];simp
      have HN:=U hnew;have hix:∀ E,(Instr.index 104 (.agg #[.pointer (tv 0),.pointer (tv 1),.pointer (tv 2),.pointer (some ad),.pointer (tv 4),.pointer (tv 5),.pointer (tv 6),.pointer (tv 7)]) (I ((3:Nat):Int))).run Tryz.prog E=.ok (.pointer (some ad)) E:=fun E=>by kernel_rfl
      clear hT ng hnew;go_wp2_with (first|(refine bZ rfl (.tmp 9) (.tmp 10) 104 rfl (hix _) ?_)|(refine qw _ rfl _ _ rfl w (by assumption) _ _ _ _ rfl (by assumption) (by omega) _ rfl ?_;intro mI gK wl ql pl))
      go_roundw
      case rel=>exact⟨3+1,by omega,rfl,pl,mI,gK,by rw[HN.out,jb,HS.out.2.1];rfl,by rw[HN.out,jb,HS.out.2.1,List.map_append,HS.out.2.2.1];exact ql⟩
      case measure=>simp[intOf]
    |4,_=>
     cases hv:tv 4 with
     |none=>
      rw[hv] at hT;have ng:(D.ai.getD 4 none).isSome=false:=hT.symm;rw[hv] at e4;have hnew:dx D (4+1)=dx D 4:=by rw[HS.out.1,ng];simp
      have HN:=U hnew;have hix:∀ E,(Instr.index 104 (.agg #[.pointer (tv 0),.pointer (tv 1),.pointer (tv 2),.pointer (tv 3),.pointer none,.pointer (tv 5),.pointer (tv 6),.pointer (tv 7)]) (I ((4:Nat):Int))).run Tryz.prog E=.ok (.pointer none) E:=fun E=>by kernel_rfl
      have HO:=U (zA aY Z);clear hT ng hnew aY Z;go_wp2_with (refine bZ rfl (.tmp 9) (.tmp 10) 104 rfl (hix _) ?_)
      go_roundw
      case rel=>exact⟨4+1,by omega,rfl,HO.out.2,av,cap,by rw[HN.out,HS.out.2.1],by rw[HN.out,HS.out.2.1,HS.out.2.2.1];exact HO.out.1⟩
      case measure=>simp[intOf]
     |some ad=>
      rw[hv] at hT;have ng:(D.ai.getD 4 none).isSome=true:=hT.symm;rw[hv] at e4;have hnew:dx D (4+1)=dx D 4++[4]:=by rw[HS.out.1,ng];simp
      have HN:=U hnew;have hix:∀ E,(Instr.index 104 (.agg #[.pointer (tv 0),.pointer (tv 1),.pointer (tv 2),.pointer (tv 3),.pointer (some ad),.pointer (tv 5),.pointer (tv 6),.pointer (tv 7)]) (I ((4:Nat):Int))).run Tryz.prog E=.ok (.pointer (some ad)) E:=fun E=>by kernel_rfl
      clear hT ng hnew;go_wp2_with (first|(refine bZ rfl (.tmp 9) (.tmp 10) 104 rfl (hix _) ?_)|(refine qw _ rfl _ _ rfl w (by assumption) _ _ _ _ rfl (by assumption) (by omega) _ rfl ?_;intro mI gK wl ql pl))
      go_roundw
      case rel=>exact⟨4+1,by omega,rfl,pl,mI,gK,by rw[HN.out,jb,HS.out.2.1];rfl,by rw[HN.out,jb,HS.out.2.1,List.map_append,HS.out.2.2.1];exact ql⟩
      case measure=>simp[intOf]
    |5,_=>
     cases hv:tv 5 with
     |none=>
      rw[hv] at hT;have ng:(D.ai.getD 5 none).isSome=false:=hT.symm;rw[hv] at e5;have hnew:dx D (5+1)=dx D 5:=by rw[HS.out.1,ng];simp
      have HN:=U hnew;have hix:∀ E,(Instr.index 104 (.agg #[.pointer (tv 0),.pointer (tv 1),.pointer (tv 2),.pointer (tv 3),.pointer (tv 4),.pointer none,.pointer (tv 6),.pointer (tv 7)]) (I ((5:Nat):Int))).run Tryz.prog E=.ok (.pointer none) E:=fun E=>by kernel_rfl
      have HO:=U (zA aY Z);clear hT ng hnew aY Z;go_wp2_with (refine bZ rfl (.tmp 9) (.tmp 10) 104 rfl (hix _) ?_)
      go_roundw
      case rel=>exact⟨5+1,by omega,rfl,HO.out.2,av,cap,by rw[HN.out,HS.out.2.1],by rw[HN.out,HS.out.2.1,HS.out.2.2.1];exact HO.out.1⟩
      case measure=>simp[intOf]
     |some ad=>
      rw[hv] at hT;have ng:(D.ai.getD 5 none).isSome=true:=hT.symm;rw[hv] at e5;have hnew:dx D (5+1)=dx D 5++[5]:=by rw[HS.out.1,ng];simp
      have HN:=U hnew;have hix:∀ E,(Instr.index 104 (.agg #[.pointer (tv 0),.pointer (tv 1),.pointer (tv 2),.pointer (tv 3),.pointer (tv 4),.pointer (some ad),.pointer (tv 6),.pointer (tv 7)]) (I ((5:Nat):Int))).run Tryz.prog E=.ok (.pointer (some ad)) E:=fun E=>by kernel_rfl
      clear hT ng hnew;go_wp2_with (first|(refine bZ rfl (.tmp 9) (.tmp 10) 104 rfl (hix _) ?_)|(refine qw _ rfl _ _ rfl w (by assumption) _ _ _ _ rfl (by assumption) (by omega) _ rfl ?_;intro mI gK wl ql pl))
      go_roundw
      case rel=>exact⟨5+1,by omega,rfl,pl,mI,gK,by rw[HN.out,jb,HS.out.2.1];rfl,by rw[HN.out,jb,HS.out.2.1,List.map_append,HS.out.2.2.1];exact ql⟩
      case measure=>simp[intOf]
    |6,_=>
     cases hv:tv 6 with
     |none=>
      rw[hv] at hT;have ng:(D.ai.getD 6 none).isSome=false:=hT.symm;rw[hv] at e6;have hnew:dx D (6+1)=dx D 6:=by rw[HS.out.1,ng];simp
      have HN:=U hnew;have hix:∀ E,(Instr.index 104 (.agg #[.pointer (tv 0),.pointer (tv 1),.pointer (tv 2),.pointer (tv 3),.pointer (tv 4),.pointer (tv 5),.pointer none,.pointer (tv 7)]) (I ((6:Nat):Int))).run Tryz.prog E=.ok (.pointer none) E:=fun E=>by kernel_rfl
      have HO:=U (zA aY Z);clear hT ng hnew aY Z;go_wp2_with (refine bZ rfl (.tmp 9) (.tmp 10) 104 rfl (hix _) ?_)
      go_roundw
      case rel=>exact⟨6+1,by omega,rfl,HO.out.2,av,cap,by rw[HN.out,HS.out.2.1],by rw[HN.out,HS.out.2.1,HS.out.2.2.1];exact HO.out.1⟩
      case measure=>simp[intOf]
     |some ad=>
      rw[hv] at hT;have ng:(D.ai.getD 6 none).isSome=true:=hT.symm;rw[hv] at e6;have hnew:dx D (6+1)=dx D 6++[6]:=by rw[HS.out.1,ng];simp
      have HN:=U hnew;have hix:∀ E,(Instr.index 104 (.agg #[.pointer (tv 0),.pointer (tv 1),.pointer (tv 2),.pointer (tv 3),.pointer (tv 4),.pointer (tv 5),.pointer (some ad),.pointer (tv 7)]) (I ((6:Nat):Int))).run Tryz.prog E=.ok (.pointer (some ad)) E:=fun E=>by kernel_rfl
      clear hT ng hnew;go_wp2_with (first|(refine bZ rfl (.tmp 9) (.tmp 10) 104 rfl (hix _) ?_)|(refine qw _ rfl _ _ rfl w (by assumption) _ _ _ _ rfl (by assumption) (by omega) _ rfl ?_;intro mI gK wl ql pl))
      go_roundw
      case rel=>exact⟨6+1,by omega,rfl,pl,mI,gK,by rw[HN.out,jb,HS.out.2.1];rfl,by rw[HN.out,jb,HS.out.2.1,List.map_append,HS.out.2.2.1];exact ql⟩
      case measure=>simp[intOf]
    |7,_=>
     cases hv:tv 7 with
     |none=>
      rw[hv] at hT;have ng:(D.ai.getD 7 none).isSome=false:=hT.symm;rw[hv] at e7;have hnew:dx D (7+1)=dx D 7:=by rw[HS.out.1,ng];simp
      have HN:=U hnew;have hix:∀ E,(Instr.index 104 (.agg #[.pointer (tv 0),.pointer (tv 1),.pointer (tv 2),.pointer (tv 3),.pointer (tv 4),.pointer (tv 5),.pointer (tv 6),.pointer none]) (I ((7:Nat):Int))).run Tryz.prog E=.ok (.pointer none) E:=fun E=>by kernel_rfl
      have HO:=U (zA aY Z);clear hT ng hnew aY Z;go_wp2_with (refine bZ rfl (.tmp 9) (.tmp 10) 104 rfl (hix _) ?_)
      go_roundw
      case rel=>exact⟨7+1,by omega,rfl,HO.out.2,av,cap,by rw[HN.out,HS.out.2.1],by rw[HN.out,HS.out.2.1,HS.out.2.2.1];exact HO.out.1⟩
      case measure=>simp[intOf]
     |some ad=>
      rw[hv] at hT;have ng:(D.ai.getD 7 none).isSome=true:=hT.symm;rw[hv] at e7;have hnew:dx D (7+1)=dx D 7++[7]:=by rw[HS.out.1,ng];simp
      have HN:=U hnew;have hix:∀ E,(Instr.index 104 (.agg #[.pointer (tv 0),.pointer (tv 1),.pointer (tv 2),.pointer (tv 3),.pointer (tv 4),.pointer (tv 5),.pointer (tv 6),.pointer (some ad)]) (I ((7:Nat):Int))).run Tryz.prog E=.ok (.pointer (some ad)) E:=fun E=>by kernel_rfl
      clear hT ng hnew;go_wp2_with (first|(refine bZ rfl (.tmp 9) (.tmp 10) 104 rfl (hix _) ?_)|(refine qw _ rfl _ _ rfl w (by assumption) _ _ _ _ rfl (by assumption) (by omega) _ rfl ?_;intro mI gK wl ql pl))
      go_roundw
      case rel=>exact⟨7+1,by omega,rfl,pl,mI,gK,by rw[HN.out,jb,HS.out.2.1];rfl,by rw[HN.out,jb,HS.out.2.1,List.map_append,HS.out.2.2.1];exact ql⟩
      case measure=>simp[intOf]
    |k+8,h=>omega
  . obtain rfl:k=8:=by omega
    clear hlt hT Y hm0;have HO:=U (zA aY Z);clear aY Z;go_wp2;go_ret;rw[HS.out.2.1,HS.out.2.2.1];exact⟨av,cap,rfl,HO.out.1,HO.out.2⟩
end Go.Proofs.YthicolbbmjfkfaaGreat.Em
