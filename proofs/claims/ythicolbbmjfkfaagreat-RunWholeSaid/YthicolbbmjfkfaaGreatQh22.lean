import Derived.Test.YthicolbbmjfkfaaGreatQh19
set_option linter.unusedVariables false
set_option linter.unusedSimpArgs false
set_option maxRecDepth 100000
set_option maxHeartbeats 1600000
namespace Go.Proofs.YthicolbbmjfkfaaGreat.Em
open Go.ChangeShapes Go.WideShapes Go.ChangeAt Go.RowKit En
theorem bY {P:Program} {w:World} {ops:Array Oper} {rest:List Oper} {o:Oper} {a:Act} {Q:Exit->Act->World->Prop} (hg:o.guard=none) (x ix:Operand) (ty:TypeId) (hop:o.op=.index ty x ix) {v:Value} (aN:(Instr.index ty (a.eval x) (a.eval ix)).run P w=.ok v w)
 (hK:wpList P ops Q rest (a.put o.dst v) w):wpList P ops Q (o::rest) a w:=by
 refine wpList_plain hg fun K' hK'=>?_
 unfold Oper.wp;simp[execOp,hop,aN,Result.andThen];exact hK' _ _ hK
theorem oF {ops:Array Oper} {rest:List Oper} {o:Oper} {a:Act} {Q:Exit->Act->World->Prop} (w:World) (hgd:o.guard=none) (s x:Operand)
 (ho:o.op=.call {callee:=.builtin .append,args:=#[s,x],argTypes:=#[36,36]})
 (w0:World) (Z:Below w0.heap.size w0 w) (av:Option Addr) (m cap:Nat) (xs:List Value) (hs:a.eval s=.slice av m cap) (aS:w.ownsRow w0.heap.size 3 1 (.slice av m cap) m xs) (hm:m<4000000)
 (t0:Int) (hx:a.eval x=.slice (some (J w.heap.size 0)) 1 1)
 (h:∀ BN cap' G,G.ownsRow w0.heap.size 3 1 (.slice BN (m+1) cap') (m+1) (xs++[I t0])->Below w0.heap.size w0 G->wpList Tryz.prog ops Q rest (a.put o.dst (.slice BN (m+1) cap')) G):
 wpList Tryz.prog ops Q (o::rest) a (w.alloc (.cells #[I t0] 3)):=by
 obtain⟨ii,hii,hz0,hz1,hz2⟩:=info_parts zP;have hw:=Z.size;have hown':(w.alloc (.cells #[I t0] 3)).ownsRow w0.heap.size 3 1 (.slice av m cap) m xs:=mi aS fun g hg=>Below.heap_alloc _ _ _ (aS.lt g hg).2
 refine Ow.dH _ hgd s x 36 ho w0.heap.size 3 ii _ 1 8 Tryz.underlying36 hii hz0 hz1 hz2 rfl (by decide) (.slice av m cap) m xs hs hown' (J w.heap.size 0) 1 1 (by omega) [I t0] hx rfl (fun j u hu=>Ow.iF w [I t0] _ _ rfl j u hu) (by intro u hu;simp at hu;subst hu;rfl) (by unfold maxLen;omega) (by omega) (by simp;omega) ?_;intro v' G q1 q2 q3;obtain⟨BN,cap',rfl,_⟩:=Ow.bD q1;exact h BN cap' G q1 ((Z.alloc hw _).grown q2 (by simp;omega) (fun g hg=>(aS.lt g hg).1))
def bU (D:St) (k:Nat):List Nat:=(List.range k).filter fun s=>(D.ag.getD s none).isSome
theorem AZ (D:St) (k:Nat):bU D (k+1)=bU D k++(if (D.ag.getD k none).isSome then [k] else []):=by
 unfold bU;rw[List.range_succ,List.filter_append]
 congr 1
 simp only[List.filter_cons,List.filter_nil]
theorem E9 (D:St) (k:Nat):(bU D k).length<=k:=by
 unfold bU;have:=List.length_filter_le (fun s=>(D.ag.getD s none).isSome) (List.range k)
 simpa using this
theorem Ba {A:au} {D:St} {w:World} (hR:aD A D w):
 zk 13 #[R A.Y 0] w fun e G=>∃ av cap,e=.returned (.slice av D.live.length cap)∧G.ownsRow w.heap.size 3 1 (.slice av D.live.length cap) D.live.length (D.live.map i64)∧Below w.heap.size w G:=by
 have hE:∀ k:Nat,k<8->w.cell? (J A.Y (5+k))=some (A.tp D k):=fun k V=>hR.eH (5+k) (dV A D V)
 have e0:=hE 0 (by omega);have e1:=hE 1 (by omega);have e2:=hE 2 (by omega);have e3:=hE 3 (by omega);have e4:=hE 4 (by omega);have e5:=hE 5 (by omega);have e6:=hE 6 (by omega);have e7:=hE 7 (by omega);have hls:D.live=bU D 8:=rfl;rw[hls];obtain⟨tv,FI⟩:∃ tv:Nat->Option Addr,∀ k,A.tp D k=.pointer (tv k)∧((tv k).isSome=(D.ag.getD k none).isSome):=by
  refine⟨fun k=>if (D.ag.getD k none).isSome=true then some (J (A.bt k) 0) else none,fun k=>?_⟩;unfold au.tp;dsimp only;generalize D.ag.getD k none=ot
  cases ot<;>exact⟨rfl,rfl⟩
 rw[(FI 0).1] at e0;rw[(FI 1).1] at e1;rw[(FI 2).1] at e2;rw[(FI 3).1] at e3;rw[(FI 4).1] at e4;rw[(FI 5).1] at e5;rw[(FI 6).1] at e6;rw[(FI 7).1] at e7;have UZ:=U (fun k=>(FI k).2);clear hE hR hls FI;go_enter Tryz.func13,Tryz.ntmps13;go_wp2
 go_loopw [3,10] (fun l i wr=>∃ k:Nat,k<=8∧i=I k∧Below w.heap.size w wr∧∃ av cap,l=.slice av (bU D k).length cap∧wr.ownsRow w.heap.size 3 1 l (bU D k).length ((bU D k).map i64)) (fun _ i _=>8 - (intOf i).toNat)
 case atStart=>exact⟨0,by omega,rfl,Below.refl _ _,none,0,rfl,rfl,.inl ⟨rfl,rfl⟩⟩
 case round=>
  obtain⟨k,V,rfl,Z,av,cap,rfl,aS⟩:=hrel;have hm0:=E9 D k;have hsu:=AZ D k;generalize hll:(bU D k).length=m at*;generalize hxs:(bU D k).map i64=xs at*;have hT:=UZ.out k;have HS:=U (zA hsu (zA hll (zA hxs V)));clear hsu hll hxs
  by_cases hlt:k<8
  . have n1:IntKind.i64.wrap ((k:Int)+1)=(k:Int)+1:=by rw[jH];omega
    have hm1:m<4000000:=by omega
    clear hm0 V
    match k,hlt with
    |0,_=>
     cases hv:tv 0 with
     |none=>
      rw[hv] at hT;have lD:(D.ag.getD 0 none).isSome=false:=hT.symm;rw[hv] at e0;have hnew:bU D (0+1)=bU D 0:=by rw[HS.out.1,lD];simp
      have HN:=U hnew;have hix:∀ G,(Instr.index 104 (.agg #[.pointer none,.pointer (tv 1),.pointer (tv 2),.pointer (tv 3),.pointer (tv 4),.pointer (tv 5),.pointer (tv 6),.pointer (tv 7)]) (I ((0:Nat):Int))).run Tryz.prog G=.ok (.pointer none) G:=fun G=>by kernel_rfl
      have HO:=U (zA aS Z);clear hT lD hnew aS Z;go_wp2_with (refine bY rfl (.tmp 9) (.tmp 10) 104 rfl (hix _) ?_)
      go_roundw
      case rel=>exact⟨0+1,by omega,rfl,HO.out.2,av,cap,by rw[HN.out,HS.out.2.1],by rw[HN.out,HS.out.2.1,HS.out.2.2.1];exact HO.out.1⟩
      case measure=>simp[intOf]
     |some ad=>
      rw[hv] at hT;have lD:(D.ag.getD 0 none).isSome=true:=hT.symm;rw[hv] at e0;have hnew:bU D (0+1)=bU D 0++[0]:=by rw[HS.out.1,lD];simp
      have HN:=U hnew;have hix:∀ G,(Instr.index 104 (.agg #[.pointer (some ad),.pointer (tv 1),.pointer (tv 2),.pointer (tv 3),.pointer (tv 4),.pointer (tv 5),.pointer (tv 6),.pointer (tv 7)]) (I ((0:Nat):Int))).run Tryz.prog G=.ok (.pointer (some ad)) G:=fun G=>by kernel_rfl
      clear hT lD hnew;go_wp2_with (first|(refine bY rfl (.tmp 9) (.tmp 10) 104 rfl (hix _) ?_)|(refine oF _ rfl _ _ rfl w (by assumption) _ _ _ _ rfl (by assumption) (by omega) _ rfl ?_;intro ru jR wl ql pl))
      go_roundw
      case rel=>exact⟨0+1,by omega,rfl,pl,ru,jR,by rw[HN.out,jF,HS.out.2.1];rfl,by rw[HN.out,jF,HS.out.2.1,List.map_append,HS.out.2.2.1];exact ql⟩
      case measure=>simp[intOf]
    |1,_=>
     cases hv:tv 1 with
     |none=>
      rw[hv] at hT;have lD:(D.ag.getD 1 none).isSome=false:=hT.symm;rw[hv] at e1;have hnew:bU D (1+1)=bU D 1:=by rw[HS.out.1,lD];simp
      have HN:=U hnew;have hix:∀ G,(Instr.index 104 (.agg #[.pointer (tv 0),.pointer none,.pointer (tv 2),.pointer (tv 3),.pointer (tv 4),.pointer (tv 5),.pointer (tv 6),.pointer (tv 7)]) (I ((1:Nat):Int))).run Tryz.prog G=.ok (.pointer none) G:=fun G=>by kernel_rfl
      have HO:=U (zA aS Z);clear hT lD hnew aS Z;go_wp2_with (refine bY rfl (.tmp 9) (.tmp 10) 104 rfl (hix _) ?_)
      go_roundw
      case rel=>exact⟨1+1,by omega,rfl,HO.out.2,av,cap,by rw[HN.out,HS.out.2.1],by rw[HN.out,HS.out.2.1,HS.out.2.2.1];exact HO.out.1⟩
      case measure=>simp[intOf]
     |some ad=>
      rw[hv] at hT;have lD:(D.ag.getD 1 none).isSome=true:=hT.symm;rw[hv] at e1;have hnew:bU D (1+1)=bU D 1++[1]:=by rw[HS.out.1,lD];simp
      have HN:=U hnew;have hix:∀ G,(Instr.index 104 (.agg #[.pointer (tv 0),.pointer (some ad),.pointer (tv 2),.pointer (tv 3),.pointer (tv 4),.pointer (tv 5),.pointer (tv 6),.pointer (tv 7)]) (I ((1:Nat):Int))).run Tryz.prog G=.ok (.pointer (some ad)) G:=fun G=>by kernel_rfl
      clear hT lD hnew;go_wp2_with (first|(refine bY rfl (.tmp 9) (.tmp 10) 104 rfl (hix _) ?_)|(refine oF _ rfl _ _ rfl w (by assumption) _ _ _ _ rfl (by assumption) (by omega) _ rfl ?_;intro ru jR wl ql pl))
      go_roundw
      case rel=>exact⟨1+1,by omega,rfl,pl,ru,jR,by rw[HN.out,jF,HS.out.2.1];rfl,by rw[HN.out,jF,HS.out.2.1,List.map_append,HS.out.2.2.1];exact ql⟩
      case measure=>simp[intOf]
    |2,_=>
     cases hv:tv 2 with
     |none=>
      rw[hv] at hT;have lD:(D.ag.getD 2 none).isSome=false:=hT.symm;rw[hv] at e2;have hnew:bU D (2+1)=bU D 2:=by rw[HS.out.1,lD];simp
      have HN:=U hnew;have hix:∀ G,(Instr.index 104 (.agg #[.pointer (tv 0),.pointer (tv 1),.pointer none,.pointer (tv 3),.pointer (tv 4),.pointer (tv 5),.pointer (tv 6),.pointer (tv 7)]) (I ((2:Nat):Int))).run Tryz.prog G=.ok (.pointer none) G:=fun G=>by kernel_rfl
      have HO:=U (zA aS Z);clear hT lD hnew aS Z;go_wp2_with (refine bY rfl (.tmp 9) (.tmp 10) 104 rfl (hix _) ?_)
      go_roundw
      case rel=>exact⟨2+1,by omega,rfl,HO.out.2,av,cap,by rw[HN.out,HS.out.2.1],by rw[HN.out,HS.out.2.1,HS.out.2.2.1];exact HO.out.1⟩
      case measure=>simp[intOf]
     |some ad=>
      rw[hv] at hT;have lD:(D.ag.getD 2 none).isSome=true:=hT.symm;rw[hv] at e2;have hnew:bU D (2+1)=bU D 2++[2]:=by rw[HS.out.1,lD];simp
      have HN:=U hnew;have hix:∀ G,(Instr.index 104 (.agg #[.pointer (tv 0),.pointer (tv 1),.pointer (some ad),.pointer (tv 3),.pointer (tv 4),.pointer (tv 5),.pointer (tv 6),.pointer (tv 7)]) (I ((2:Nat):Int))).run Tryz.prog G=.ok (.pointer (some ad)) G:=fun G=>by kernel_rfl
      clear hT lD hnew;go_wp2_with (first|(refine bY rfl (.tmp 9) (.tmp 10) 104 rfl (hix _) ?_)|(refine oF _ rfl _ _ rfl w (by assumption) _ _ _ _ rfl (by assumption) (by omega) _ rfl ?_;intro ru jR wl ql pl))
      go_roundw
      case rel=>exact⟨2+1,by omega,rfl,pl,ru,jR,by rw[HN.out,jF,HS.out.2.1];rfl,by rw[HN.out,jF,HS.out.2.1,List.map_append,HS.out.2.2.1];exact ql⟩
      case measure=>simp[intOf]
    |3,_=>
     cases hv:tv 3 with
     |none=>
      rw[hv] at hT;have lD:(D.ag.getD 3 none).isSome=false:=hT.symm;rw[hv] at e3;have hnew:bU D (3+1)=bU D 3:=by rw[HS.out.1,lD];simp
      have HN:=U hnew;have hix:∀ G,(Instr.index 104 (.agg #[.pointer (tv 0),.pointer (tv 1),.pointer (tv 2),.pointer none,.pointer (tv 4),.pointer (tv 5),.pointer (tv 6),.pointer (tv 7)]) (I ((3:Nat):Int))).run Tryz.prog G=.ok (.pointer none) G:=fun G=>by kernel_rfl
      have HO:=U (zA aS Z);clear hT lD hnew aS Z;go_wp2_with (refine bY rfl (.tmp 9) (.tmp 10) 104 rfl (hix _) ?_)
      go_roundw
      case rel=>exact⟨3+1,by omega,rfl,HO.out.2,av,cap,by rw[HN.out,HS.out.2.1],by rw[HN.out,HS.out.2.1,HS.out.2.2.1];exact HO.out.1⟩
      case measure=>simp[intOf]
     |some ad=>
      rw[hv] at hT;have lD:(D.ag.getD 3 none).isSome=true:=hT.symm;rw[hv] at e3;have hnew:bU D (3+1)=bU D 3++[3]:=by rw[HS.out.1,lD];simp
      have HN:=U hnew;have hix:∀ G,(Instr.index 104 (.agg #[.pointer (tv 0),.pointer (tv 1),.pointer (tv 2),.pointer (some ad),.pointer (tv 4),.pointer (tv 5),.pointer (tv 6),.pointer (tv 7)]) (I ((3:Nat):Int))).run Tryz.prog G=.ok (.pointer (some ad)) G:=fun G=>by kernel_rfl
      clear hT lD hnew;go_wp2_with (first|(refine bY rfl (.tmp 9) (.tmp 10) 104 rfl (hix _) ?_)|(refine oF _ rfl _ _ rfl w (by assumption) _ _ _ _ rfl (by assumption) (by omega) _ rfl ?_;intro ru jR wl ql pl))
      go_roundw
      case rel=>exact⟨3+1,by omega,rfl,pl,ru,jR,by rw[HN.out,jF,HS.out.2.1];rfl,by rw[HN.out,jF,HS.out.2.1,List.map_append,HS.out.2.2.1];exact ql⟩
      case measure=>simp[intOf]
    |4,_=>
     cases hv:tv 4 with
     |none=>
      rw[hv] at hT;have lD:(D.ag.getD 4 none).isSome=false:=hT.symm;rw[hv] at e4;have hnew:bU D (4+1)=bU D 4:=by rw[HS.out.1,lD];simp
      have HN:=U hnew;have hix:∀ G,(Instr.index 104 (.agg #[.pointer (tv 0),.pointer (tv 1),.pointer (tv 2),.pointer (tv 3),.pointer none,.pointer (tv 5),.pointer (tv 6),.pointer (tv 7)]) (I ((4:Nat):Int))).run Tryz.prog G=.ok (.pointer none) G:=fun G=>by kernel_rfl
      have HO:=U (zA aS Z);clear hT lD hnew aS Z;go_wp2_with (refine bY rfl (.tmp 9) (.tmp 10) 104 rfl (hix _) ?_)
      go_roundw
      case rel=>exact⟨4+1,by omega,rfl,HO.out.2,av,cap,by rw[HN.out,HS.out.2.1],by rw[HN.out,HS.out.2.1,HS.out.2.2.1];exact HO.out.1⟩
      case measure=>simp[intOf]
     |some ad=>
      rw[hv] at hT;have lD:(D.ag.getD 4 none).isSome=true:=hT.symm;rw[hv] at e4;have hnew:bU D (4+1)=bU D 4++[4]:=by rw[HS.out.1,lD];simp
      have HN:=U hnew;have hix:∀ G,(Instr.index 104 (.agg #[.pointer (tv 0),.pointer (tv 1),.pointer (tv 2),.pointer (tv 3),.pointer (some ad),.pointer (tv 5),.pointer (tv 6),.pointer (tv 7)]) (I ((4:Nat):Int))).run Tryz.prog G=.ok (.pointer (some ad)) G:=fun G=>by kernel_rfl
      clear hT lD hnew;go_wp2_with (first|(refine bY rfl (.tmp 9) (.tmp 10) 104 rfl (hix _) ?_)|(refine oF _ rfl _ _ rfl w (by assumption) _ _ _ _ rfl (by assumption) (by omega) _ rfl ?_;intro ru jR wl ql pl))
      go_roundw
      case rel=>exact⟨4+1,by omega,rfl,pl,ru,jR,by rw[HN.out,jF,HS.out.2.1];rfl,by rw[HN.out,jF,HS.out.2.1,List.map_append,HS.out.2.2.1];exact ql⟩
      case measure=>simp[intOf]
    |5,_=>
     cases hv:tv 5 with
     |none=>
      rw[hv] at hT;have lD:(D.ag.getD 5 none).isSome=false:=hT.symm;rw[hv] at e5;have hnew:bU D (5+1)=bU D 5:=by rw[HS.out.1,lD];simp
      have HN:=U hnew;have hix:∀ G,(Instr.index 104 (.agg #[.pointer (tv 0),.pointer (tv 1),.pointer (tv 2),.pointer (tv 3),.pointer (tv 4),.pointer none,.pointer (tv 6),.pointer (tv 7)]) (I ((5:Nat):Int))).run Tryz.prog G=.ok (.pointer none) G:=fun G=>by kernel_rfl
      have HO:=U (zA aS Z);clear hT lD hnew aS Z;go_wp2_with (refine bY rfl (.tmp 9) (.tmp 10) 104 rfl (hix _) ?_)
      go_roundw
      case rel=>exact⟨5+1,by omega,rfl,HO.out.2,av,cap,by rw[HN.out,HS.out.2.1],by rw[HN.out,HS.out.2.1,HS.out.2.2.1];exact HO.out.1⟩
      case measure=>simp[intOf]
     |some ad=>
      rw[hv] at hT;have lD:(D.ag.getD 5 none).isSome=true:=hT.symm;rw[hv] at e5;have hnew:bU D (5+1)=bU D 5++[5]:=by rw[HS.out.1,lD];simp
      have HN:=U hnew;have hix:∀ G,(Instr.index 104 (.agg #[.pointer (tv 0),.pointer (tv 1),.pointer (tv 2),.pointer (tv 3),.pointer (tv 4),.pointer (some ad),.pointer (tv 6),.pointer (tv 7)]) (I ((5:Nat):Int))).run Tryz.prog G=.ok (.pointer (some ad)) G:=fun G=>by kernel_rfl
      clear hT lD hnew;go_wp2_with (first|(refine bY rfl (.tmp 9) (.tmp 10) 104 rfl (hix _) ?_)|(refine oF _ rfl _ _ rfl w (by assumption) _ _ _ _ rfl (by assumption) (by omega) _ rfl ?_;intro ru jR wl ql pl))
      go_roundw
      case rel=>exact⟨5+1,by omega,rfl,pl,ru,jR,by rw[HN.out,jF,HS.out.2.1];rfl,by rw[HN.out,jF,HS.out.2.1,List.map_append,HS.out.2.2.1];exact ql⟩
      case measure=>simp[intOf]
    |6,_=>
     cases hv:tv 6 with
     |none=>
      rw[hv] at hT;have lD:(D.ag.getD 6 none).isSome=false:=hT.symm;rw[hv] at e6;have hnew:bU D (6+1)=bU D 6:=by rw[HS.out.1,lD];simp
      have HN:=U hnew;have hix:∀ G,(Instr.index 104 (.agg #[.pointer (tv 0),.pointer (tv 1),.pointer (tv 2),.pointer (tv 3),.pointer (tv 4),.pointer (tv 5),.pointer none,.pointer (tv 7)]) (I ((6:Nat):Int))).run Tryz.prog G=.ok (.pointer none) G:=fun G=>by kernel_rfl
      have HO:=U (zA aS Z);clear hT lD hnew aS Z;go_wp2_with (refine bY rfl (.tmp 9) (.tmp 10) 104 rfl (hix _) ?_)
      go_roundw
      case rel=>exact⟨6+1,by omega,rfl,HO.out.2,av,cap,by rw[HN.out,HS.out.2.1],by rw[HN.out,HS.out.2.1,HS.out.2.2.1];exact HO.out.1⟩
      case measure=>simp[intOf]
     |some ad=>
      rw[hv] at hT;have lD:(D.ag.getD 6 none).isSome=true:=hT.symm;rw[hv] at e6;have hnew:bU D (6+1)=bU D 6++[6]:=by rw[HS.out.1,lD];simp
      have HN:=U hnew;have hix:∀ G,(Instr.index 104 (.agg #[.pointer (tv 0),.pointer (tv 1),.pointer (tv 2),.pointer (tv 3),.pointer (tv 4),.pointer (tv 5),.pointer (some ad),.pointer (tv 7)]) (I ((6:Nat):Int))).run Tryz.prog G=.ok (.pointer (some ad)) G:=fun G=>by kernel_rfl
      clear hT lD hnew;go_wp2_with (first|(refine bY rfl (.tmp 9) (.tmp 10) 104 rfl (hix _) ?_)|(refine oF _ rfl _ _ rfl w (by assumption) _ _ _ _ rfl (by assumption) (by omega) _ rfl ?_;intro ru jR wl ql pl))
      go_roundw
      case rel=>exact⟨6+1,by omega,rfl,pl,ru,jR,by rw[HN.out,jF,HS.out.2.1];rfl,by rw[HN.out,jF,HS.out.2.1,List.map_append,HS.out.2.2.1];exact ql⟩
      case measure=>simp[intOf]
    |7,_=>
     cases hv:tv 7 with
     |none=>
      rw[hv] at hT;have lD:(D.ag.getD 7 none).isSome=false:=hT.symm;rw[hv] at e7;have hnew:bU D (7+1)=bU D 7:=by rw[HS.out.1,lD];simp
      have HN:=U hnew;have hix:∀ G,(Instr.index 104 (.agg #[.pointer (tv 0),.pointer (tv 1),.pointer (tv 2),.pointer (tv 3),.pointer (tv 4),.pointer (tv 5),.pointer (tv 6),.pointer none]) (I ((7:Nat):Int))).run Tryz.prog G=.ok (.pointer none) G:=fun G=>by kernel_rfl
      have HO:=U (zA aS Z);clear hT lD hnew aS Z;go_wp2_with (refine bY rfl (.tmp 9) (.tmp 10) 104 rfl (hix _) ?_)
      go_roundw
      case rel=>exact⟨7+1,by omega,rfl,HO.out.2,av,cap,by rw[HN.out,HS.out.2.1],by rw[HN.out,HS.out.2.1,HS.out.2.2.1];exact HO.out.1⟩
      case measure=>simp[intOf]
     |some ad=>
      rw[hv] at hT;have lD:(D.ag.getD 7 none).isSome=true:=hT.symm;rw[hv] at e7;have hnew:bU D (7+1)=bU D 7++[7]:=by rw[HS.out.1,lD];simp
      have HN:=U hnew;have hix:∀ G,(Instr.index 104 (.agg #[.pointer (tv 0),.pointer (tv 1),.pointer (tv 2),.pointer (tv 3),.pointer (tv 4),.pointer (tv 5),.pointer (tv 6),.pointer (some ad)]) (I ((7:Nat):Int))).run Tryz.prog G=.ok (.pointer (some ad)) G:=fun G=>by kernel_rfl
      clear hT lD hnew;go_wp2_with (first|(refine bY rfl (.tmp 9) (.tmp 10) 104 rfl (hix _) ?_)|(refine oF _ rfl _ _ rfl w (by assumption) _ _ _ _ rfl (by assumption) (by omega) _ rfl ?_;intro ru jR wl ql pl))
      go_roundw
      case rel=>exact⟨7+1,by omega,rfl,pl,ru,jR,by rw[HN.out,jF,HS.out.2.1];rfl,by rw[HN.out,jF,HS.out.2.1,List.map_append,HS.out.2.2.1];exact ql⟩
      case measure=>simp[intOf]
    |k+8,h=>omega
  . obtain rfl:k=8:=by omega
    clear hlt hT V hm0;have HO:=U (zA aS Z);clear aS Z;go_wp2;go_ret;rw[HS.out.2.1,HS.out.2.2.1];exact⟨av,cap,rfl,HO.out.1,HO.out.2⟩
end Go.Proofs.YthicolbbmjfkfaaGreat.Em
