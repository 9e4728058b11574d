import Derived.Test.YtpkenfnmkpmapaaGreatQh18
namespace Go.Proofs.YtpkenfnmkpmapaaGreat.Em
open Go.ChangeShapes Go.WideShapes Go.ChangeAt Go.RowKit En
set_option linter.unusedVariables false
set_option linter.unusedSimpArgs false
set_option maxRecDepth 100000
set_option maxHeartbeats 1600000
theorem wpList_index {P:Program} {w:World} {ops:Array Oper} {rest:List Oper} {o:Oper} {a:Act} {Q:Exit→Act→World→Prop} (hg:o.guard=none) (x ix:Operand) (ty:TypeId) (hop:o.op=.index ty x ix) {v:Value} (hrun:(Instr.index ty (a.eval x) (a.eval ix)).run P w=.ok v w)
 (hK:wpList P ops Q rest (a.put o.dst v) w):wpList P ops Q (o::rest) a w:=by
 refine wpList_plain hg fun K' hK'=>?_
 unfold Oper.wp;simp[execOp,hop,hrun,Result.andThen];exact hK' _ _ hK
theorem wp_int {ops:Array Oper} {rest:List Oper} {o:Oper} {a:Act} {Q:Exit→Act→World→Prop} (w:World) (hgd:o.guard=none) (s x:Operand)
 (ho:o.op=.call {callee:=.builtin .append,args:=#[s,x],argTypes:=#[23,23]})
 (w0:World) (hb:Below w0.heap.size w0 w) (av:Option Addr) (m cap:Nat) (xs:List Value) (hs:a.eval s=.slice av m cap) (hown:w.ownsRow w0.heap.size 3 1 (.slice av m cap) m xs) (hm:m<4000000)
 (t0:Int) (hx:a.eval x=.slice (some ⟨w.heap.size,0,none⟩) 1 1)
 (h:∀ av' cap' w',w'.ownsRow w0.heap.size 3 1 (.slice av' (m+1) cap') (m+1) (xs++[zi t0])→Below w0.heap.size w0 w'→wpList Tryz.prog ops Q rest (a.put o.dst (.slice av' (m+1) cap')) w'):
 wpList Tryz.prog ops Q (o::rest) a (w.alloc (.cells #[zi t0] 3)):=by
 obtain⟨ii,hii,hz0,hz1,hz2⟩:=info_parts infoI;have hw:=hb.size;have hown':(w.alloc (.cells #[zi t0] 3)).ownsRow w0.heap.size 3 1 (.slice av m cap) m xs:=own_same hown fun g hg=>Below.heap_alloc _ _ _ (hown.lt g hg).2
 refine Ow.wpList_append_to _ hgd s x 23 ho w0.heap.size 3 ii _ 1 8 Tryz.underlying23 hii hz0 hz1 hz2 rfl (by decide) (.slice av m cap) m xs hs hown' ⟨w.heap.size,0,none⟩ 1 1 (by omega) [zi t0] hx rfl (fun j u hu=>Ow.new_row w [zi t0] _ _ rfl j u hu) (by intro u hu;simp at hu;subst hu;rfl) (by unfold maxLen;omega) (by omega) (by simp;omega) ?_;intro v' w' q1 q2 q3;obtain⟨av',cap',rfl,_⟩:=Ow.own_form q1;exact h av' cap' w' q1 ((hb.alloc hw _).grown q2 (by simp;omega) (fun g hg=>(hown.lt g hg).1))
def liveTo (σ:St) (k:Nat):List Nat:=(List.range k).filter fun s=>(σ.txns.getD s none).isSome
theorem liveTo_succ (σ:St) (k:Nat):liveTo σ (k+1)=liveTo σ k++(if (σ.txns.getD k none).isSome then [k] else []):=by
 unfold liveTo;rw[List.range_succ,List.filter_append]
 congr 1
 simp only[List.filter_cons,List.filter_nil]
theorem liveTo_le (σ:St) (k:Nat):(liveTo σ k).length≤k:=by
 unfold liveTo;have:=List.length_filter_le (fun s=>(σ.txns.getD s none).isSome) (List.range k)
 simpa using this
theorem liveRow_any {A:Book} {σ:St} {w:World} (hR:Rep A σ w):
 Calls Tryz.prog 19 #[.pointer (some ⟨A.be,0,none⟩)] w fun e w'=>∃ av cap,e=.returned (.slice av σ.live.length cap)∧w'.ownsRow w.heap.size 3 1 (.slice av σ.live.length cap) σ.live.length (σ.live.map i64)∧Below w.heap.size w w':=by
 have hE:∀ k:Nat,k<8→w.cell? ⟨A.be,5+k,none⟩=some (A.tp σ k):=fun k hk=>hR.eng (5+k) (engCs_txn A σ hk)
 have e0:=hE 0 (by omega);have e1:=hE 1 (by omega);have e2:=hE 2 (by omega);have e3:=hE 3 (by omega);have e4:=hE 4 (by omega);have e5:=hE 5 (by omega);have e6:=hE 6 (by omega);have e7:=hE 7 (by omega);have hls:σ.live=liveTo σ 8:=rfl;rw[hls];obtain⟨tv,htv⟩:∃ tv:Nat→Option Addr,∀ k,A.tp σ k=.pointer (tv k)∧((tv k).isSome=(σ.txns.getD k none).isSome):=by
  refine⟨fun k=>if (σ.txns.getD k none).isSome=true then some ⟨A.bt k,0,none⟩ else none,fun k=>?_⟩;unfold Book.tp;dsimp only;generalize σ.txns.getD k none=ot
  cases ot<;>exact⟨rfl,rfl⟩
 rw[(htv 0).1] at e0;rw[(htv 1).1] at e1;rw[(htv 2).1] at e2;rw[(htv 3).1] at e3;rw[(htv 4).1] at e4;rw[(htv 5).1] at e5;rw[(htv 6).1] at e6;rw[(htv 7).1] at e7;have HTV:=zH (fun k=>(htv k).2);clear hE hR hls htv;go_enter Tryz.func19,Tryz.ntmps19;go_wp2
 go_loopw [3,10] (fun l i wr=>∃ k:Nat,k≤8∧i=zi (k:Int)∧Below w.heap.size w wr∧∃ av cap,l=.slice av (liveTo σ k).length cap∧wr.ownsRow w.heap.size 3 1 l (liveTo σ k).length ((liveTo σ k).map i64)) (fun _ i _=>8 - (intOf i).toNat)
 case atStart=>exact⟨0,by omega,rfl,Below.refl _ _,none,0,rfl,rfl,.inl ⟨rfl,rfl⟩⟩
 case round=>
  obtain⟨k,hk,rfl,hb,av,cap,rfl,hown⟩:=hrel;have hm0:=liveTo_le σ k;have hsu:=liveTo_succ σ k;generalize hll:(liveTo σ k).length=m at*;generalize hxs:(liveTo σ k).map i64=xs at*;have hT:=HTV.out k;have HS:=zH (zA hsu (zA hll (zA hxs hk)));clear hsu hll hxs
  by_cases hlt:k<8
  · have n1:IntKind.i64.wrap ((k:Int)+1)=(k:Int)+1:=by rw[IntKind.wrap_i64];omega
    have hm1:m<4000000:=by omega
    clear hm0 hk
    match k,hlt with
    |0,_=>
     cases hv:tv 0 with
     |none=>
      rw[hv] at hT;have hTn:(σ.txns.getD 0 none).isSome=false:=hT.symm;rw[hv] at e0;have hnew:liveTo σ (0+1)=liveTo σ 0:=by rw[HS.out.1,hTn];simp
      have HN:=zH hnew;have hix:∀ w',(Instr.index 97 (.agg #[.pointer none,.pointer (tv 1),.pointer (tv 2),.pointer (tv 3),.pointer (tv 4),.pointer (tv 5),.pointer (tv 6),.pointer (tv 7)]) (zi ((0:Nat):Int))).run Tryz.prog w'=.ok (.pointer none) w':=fun w'=>by kernel_rfl
      have HO:=zH (zA hown hb);clear hT hTn hnew hown hb;go_wp2_with (refine wpList_index rfl (.tmp 9) (.tmp 10) 97 rfl (hix _) ?_)
      go_roundw
      case rel=>exact⟨0+1,by omega,rfl,HO.out.2,av,cap,by rw[HN.out,HS.out.2.1],by rw[HN.out,HS.out.2.1,HS.out.2.2.1];exact HO.out.1⟩
      case measure=>simp[intOf]
     |some ad=>
      rw[hv] at hT;have hTn:(σ.txns.getD 0 none).isSome=true:=hT.symm;rw[hv] at e0;have hnew:liveTo σ (0+1)=liveTo σ 0++[0]:=by rw[HS.out.1,hTn];simp
      have HN:=zH hnew;have hix:∀ w',(Instr.index 97 (.agg #[.pointer (some ad),.pointer (tv 1),.pointer (tv 2),.pointer (tv 3),.pointer (tv 4),.pointer (tv 5),.pointer (tv 6),.pointer (tv 7)]) (zi ((0:Nat):Int))).run Tryz.prog w'=.ok (.pointer (some ad)) w':=fun w'=>by kernel_rfl
      clear hT hTn hnew;go_wp2_with (first|(refine wpList_index rfl (.tmp 9) (.tmp 10) 97 rfl (hix _) ?_)|(refine wp_int _ rfl _ _ rfl w (by assumption) _ _ _ _ rfl (by assumption) (by omega) _ rfl ?_;intro avl capl wl ql pl))
      go_roundw
      case rel=>exact⟨0+1,by omega,rfl,pl,avl,capl,by rw[HN.out,List.length_append,HS.out.2.1];rfl,by rw[HN.out,List.length_append,HS.out.2.1,List.map_append,HS.out.2.2.1];exact ql⟩
      case measure=>simp[intOf]
    |1,_=>
     cases hv:tv 1 with
     |none=>
      rw[hv] at hT;have hTn:(σ.txns.getD 1 none).isSome=false:=hT.symm;rw[hv] at e1;have hnew:liveTo σ (1+1)=liveTo σ 1:=by rw[HS.out.1,hTn];simp
      have HN:=zH hnew;have hix:∀ w',(Instr.index 97 (.agg #[.pointer (tv 0),.pointer none,.pointer (tv 2),.pointer (tv 3),.pointer (tv 4),.pointer (tv 5),.pointer (tv 6),.pointer (tv 7)]) (zi ((1:Nat):Int))).run Tryz.prog w'=.ok (.pointer none) w':=fun w'=>by kernel_rfl
      have HO:=zH (zA hown hb);clear hT hTn hnew hown hb;go_wp2_with (refine wpList_index rfl (.tmp 9) (.tmp 10) 97 rfl (hix _) ?_)
      go_roundw
      case rel=>exact⟨1+1,by omega,rfl,HO.out.2,av,cap,by rw[HN.out,HS.out.2.1],by rw[HN.out,HS.out.2.1,HS.out.2.2.1];exact HO.out.1⟩
      case measure=>simp[intOf]
     |some ad=>
      rw[hv] at hT;have hTn:(σ.txns.getD 1 none).isSome=true:=hT.symm;rw[hv] at e1;have hnew:liveTo σ (1+1)=liveTo σ 1++[1]:=by rw[HS.out.1,hTn];simp
      have HN:=zH hnew;have hix:∀ w',(Instr.index 97 (.agg #[.pointer (tv 0),.pointer (some ad),.pointer (tv 2),.pointer (tv 3),.pointer (tv 4),.pointer (tv 5),.pointer (tv 6),.pointer (tv 7)]) (zi ((1:Nat):Int))).run Tryz.prog w'=.ok (.pointer (some ad)) w':=fun w'=>by kernel_rfl
      clear hT hTn hnew;go_wp2_with (first|(refine wpList_index rfl (.tmp 9) (.tmp 10) 97 rfl (hix _) ?_)|(refine wp_int _ rfl _ _ rfl w (by assumption) _ _ _ _ rfl (by assumption) (by omega) _ rfl ?_;intro avl capl wl ql pl))
      go_roundw
      case rel=>exact⟨1+1,by omega,rfl,pl,avl,capl,by rw[HN.out,List.length_append,HS.out.2.1];rfl,by rw[HN.out,List.length_append,HS.out.2.1,List.map_append,HS.out.2.2.1];exact ql⟩
      case measure=>simp[intOf]
    |2,_=>
     cases hv:tv 2 with
     |none=>
      rw[hv] at hT;have hTn:(σ.txns.getD 2 none).isSome=false:=hT.symm;rw[hv] at e2;have hnew:liveTo σ (2+1)=liveTo σ 2:=by rw[HS.out.1,hTn];simp
      have HN:=zH hnew;have hix:∀ w',(Instr.index 97 (.agg #[.pointer (tv 0),.pointer (tv 1),.pointer none,.pointer (tv 3),.pointer (tv 4),.pointer (tv 5),.pointer (tv 6),.pointer (tv 7)]) (zi ((2:Nat):Int))).run Tryz.prog w'=.ok (.pointer none) w':=fun w'=>by kernel_rfl
      have HO:=zH (zA hown hb);clear hT hTn hnew hown hb;go_wp2_with (refine wpList_index rfl (.tmp 9) (.tmp 10) 97 rfl (hix _) ?_)
      go_roundw
      case rel=>exact⟨2+1,by omega,rfl,HO.out.2,av,cap,by rw[HN.out,HS.out.2.1],by rw[HN.out,HS.out.2.1,HS.out.2.2.1];exact HO.out.1⟩
      case measure=>simp[intOf]
     |some ad=>
      rw[hv] at hT;have hTn:(σ.txns.getD 2 none).isSome=true:=hT.symm;rw[hv] at e2;have hnew:liveTo σ (2+1)=liveTo σ 2++[2]:=by rw[HS.out.1,hTn];simp
      have HN:=zH hnew;have hix:∀ w',(Instr.index 97 (.agg #[.pointer (tv 0),.pointer (tv 1),.pointer (some ad),.pointer (tv 3),.pointer (tv 4),.pointer (tv 5),.pointer (tv 6),.pointer (tv 7)]) (zi ((2:Nat):Int))).run Tryz.prog w'=.ok (.pointer (some ad)) w':=fun w'=>by kernel_rfl
      clear hT hTn hnew;go_wp2_with (first|(refine wpList_index rfl (.tmp 9) (.tmp 10) 97 rfl (hix _) ?_)|(refine wp_int _ rfl _ _ rfl w (by assumption) _ _ _ _ rfl (by assumption) (by omega) _ rfl ?_;intro avl capl wl ql pl))
      go_roundw
      case rel=>exact⟨2+1,by omega,rfl,pl,avl,capl,by rw[HN.out,List.length_append,HS.out.2.1];rfl,by rw[HN.out,List.length_append,HS.out.2.1,List.map_append,HS.out.2.2.1];exact ql⟩
      case measure=>simp[intOf]
    |3,_=>
     cases hv:tv 3 with
     |none=>
      rw[hv] at hT;have hTn:(σ.txns.getD 3 none).isSome=false:=hT.symm;rw[hv] at e3;have hnew:liveTo σ (3+1)=liveTo σ 3:=by rw[HS.out.1,hTn];simp
      have HN:=zH hnew;have hix:∀ w',(Instr.index 97 (.agg #[.pointer (tv 0),.pointer (tv 1),.pointer (tv 2),.pointer none,.pointer (tv 4),.pointer (tv 5),.pointer (tv 6),.pointer (tv 7)]) (zi ((3:Nat):Int))).run Tryz.prog w'=.ok (.pointer none) w':=fun w'=>by kernel_rfl
      have HO:=zH (zA hown hb);clear hT hTn hnew hown hb;go_wp2_with (refine wpList_index rfl (.tmp 9) (.tmp 10) 97 rfl (hix _) ?_)
      go_roundw
      case rel=>exact⟨3+1,by omega,rfl,HO.out.2,av,cap,by rw[HN.out,HS.out.2.1],by rw[HN.out,HS.out.2.1,HS.out.2.2.1];exact HO.out.1⟩
      case measure=>simp[intOf]
     |some ad=>
      rw[hv] at hT;have hTn:(σ.txns.getD 3 none).isSome=true:=hT.symm;rw[hv] at e3;have hnew:liveTo σ (3+1)=liveTo σ 3++[3]:=by rw[HS.out.1,hTn];simp
      have HN:=zH hnew;have hix:∀ w',(Instr.index 97 (.agg #[.pointer (tv 0),.pointer (tv 1),.pointer (tv 2),.pointer (some ad),.pointer (tv 4),.pointer (tv 5),.pointer (tv 6),.pointer (tv 7)]) (zi ((3:Nat):Int))).run Tryz.prog w'=.ok (.pointer (some ad)) w':=fun w'=>by kernel_rfl
      clear hT hTn hnew;go_wp2_with (first|(refine wpList_index rfl (.tmp 9) (.tmp 10) 97 rfl (hix _) ?_)|(refine wp_int _ rfl _ _ rfl w (by assumption) _ _ _ _ rfl (by assumption) (by omega) _ rfl ?_;intro avl capl wl ql pl))
      go_roundw
      case rel=>exact⟨3+1,by omega,rfl,pl,avl,capl,by rw[HN.out,List.length_append,HS.out.2.1];rfl,by rw[HN.out,List.length_append,HS.out.2.1,List.map_append,HS.out.2.2.1];exact ql⟩
      case measure=>simp[intOf]
    |4,_=>
     cases hv:tv 4 with
     |none=>
      rw[hv] at hT;have hTn:(σ.txns.getD 4 none).isSome=false:=hT.symm;rw[hv] at e4;have hnew:liveTo σ (4+1)=liveTo σ 4:=by rw[HS.out.1,hTn];simp
      have HN:=zH hnew;have hix:∀ w',(Instr.index 97 (.agg #[.pointer (tv 0),.pointer (tv 1),.pointer (tv 2),.pointer (tv 3),.pointer none,.pointer (tv 5),.pointer (tv 6),.pointer (tv 7)]) (zi ((4:Nat):Int))).run Tryz.prog w'=.ok (.pointer none) w':=fun w'=>by kernel_rfl
      have HO:=zH (zA hown hb);clear hT hTn hnew hown hb;go_wp2_with (refine wpList_index rfl (.tmp 9) (.tmp 10) 97 rfl (hix _) ?_)
      go_roundw
      case rel=>exact⟨4+1,by omega,rfl,HO.out.2,av,cap,by rw[HN.out,HS.out.2.1],by rw[HN.out,HS.out.2.1,HS.out.2.2.1];exact HO.out.1⟩
      case measure=>simp[intOf]
     |some ad=>
      rw[hv] at hT;have hTn:(σ.txns.getD 4 none).isSome=true:=hT.symm;rw[hv] at e4;have hnew:liveTo σ (4+1)=liveTo σ 4++[4]:=by rw[HS.out.1,hTn];simp
      have HN:=zH hnew;have hix:∀ w',(Instr.index 97 (.agg #[.pointer (tv 0),.pointer (tv 1),.pointer (tv 2),.pointer (tv 3),.pointer (some ad),.pointer (tv 5),.pointer (tv 6),.pointer (tv 7)]) (zi ((4:Nat):Int))).run Tryz.prog w'=.ok (.pointer (some ad)) w':=fun w'=>by kernel_rfl
      clear hT hTn hnew;go_wp2_with (first|(refine wpList_index rfl (.tmp 9) (.tmp 10) 97 rfl (hix _) ?_)|(refine wp_int _ rfl _ _ rfl w (by assumption) _ _ _ _ rfl (by assumption) (by omega) _ rfl ?_;intro avl capl wl ql pl))
      go_roundw
      case rel=>exact⟨4+1,by omega,rfl,pl,avl,capl,by rw[HN.out,List.length_append,HS.out.2.1];rfl,by rw[HN.out,List.length_append,HS.out.2.1,List.map_append,HS.out.2.2.1];exact ql⟩
      case measure=>simp[intOf]
    |5,_=>
     cases hv:tv 5 with
     |none=>
      rw[hv] at hT;have hTn:(σ.txns.getD 5 none).isSome=false:=hT.symm;rw[hv] at e5;have hnew:liveTo σ (5+1)=liveTo σ 5:=by rw[HS.out.1,hTn];simp
      have HN:=zH hnew;have hix:∀ w',(Instr.index 97 (.agg #[.pointer (tv 0),.pointer (tv 1),.pointer (tv 2),.pointer (tv 3),.pointer (tv 4),.pointer none,.pointer (tv 6),.pointer (tv 7)]) (zi ((5:Nat):Int))).run Tryz.prog w'=.ok (.pointer none) w':=fun w'=>by kernel_rfl
      have HO:=zH (zA hown hb);clear hT hTn hnew hown hb;go_wp2_with (refine wpList_index rfl (.tmp 9) (.tmp 10) 97 rfl (hix _) ?_)
      go_roundw
      case rel=>exact⟨5+1,by omega,rfl,HO.out.2,av,cap,by rw[HN.out,HS.out.2.1],by rw[HN.out,HS.out.2.1,HS.out.2.2.1];exact HO.out.1⟩
      case measure=>simp[intOf]
     |some ad=>
      rw[hv] at hT;have hTn:(σ.txns.getD 5 none).isSome=true:=hT.symm;rw[hv] at e5;have hnew:liveTo σ (5+1)=liveTo σ 5++[5]:=by rw[HS.out.1,hTn];simp
      have HN:=zH hnew;have hix:∀ w',(Instr.index 97 (.agg #[.pointer (tv 0),.pointer (tv 1),.pointer (tv 2),.pointer (tv 3),.pointer (tv 4),.pointer (some ad),.pointer (tv 6),.pointer (tv 7)]) (zi ((5:Nat):Int))).run Tryz.prog w'=.ok (.pointer (some ad)) w':=fun w'=>by kernel_rfl
      clear hT hTn hnew;go_wp2_with (first|(refine wpList_index rfl (.tmp 9) (.tmp 10) 97 rfl (hix _) ?_)|(refine wp_int _ rfl _ _ rfl w (by assumption) _ _ _ _ rfl (by assumption) (by omega) _ rfl ?_;intro avl capl wl ql pl))
      go_roundw
      case rel=>exact⟨5+1,by omega,rfl,pl,avl,capl,by rw[HN.out,List.length_append,HS.out.2.1];rfl,by rw[HN.out,List.length_append,HS.out.2.1,List.map_append,HS.out.2.2.1];exact ql⟩
      case measure=>simp[intOf]
    |6,_=>
     cases hv:tv 6 with
     |none=>
      rw[hv] at hT;have hTn:(σ.txns.getD 6 none).isSome=false:=hT.symm;rw[hv] at e6;have hnew:liveTo σ (6+1)=liveTo σ 6:=by rw[HS.out.1,hTn];simp
      have HN:=zH hnew;have hix:∀ w',(Instr.index 97 (.agg #[.pointer (tv 0),.pointer (tv 1),.pointer (tv 2),.pointer (tv 3),.pointer (tv 4),.pointer (tv 5),.pointer none,.pointer (tv 7)]) (zi ((6:Nat):Int))).run Tryz.prog w'=.ok (.pointer none) w':=fun w'=>by kernel_rfl
      have HO:=zH (zA hown hb);clear hT hTn hnew hown hb;go_wp2_with (refine wpList_index rfl (.tmp 9) (.tmp 10) 97 rfl (hix _) ?_)
      go_roundw
      case rel=>exact⟨6+1,by omega,rfl,HO.out.2,av,cap,by rw[HN.out,HS.out.2.1],by rw[HN.out,HS.out.2.1,HS.out.2.2.1];exact HO.out.1⟩
      case measure=>simp[intOf]
     |some ad=>
      rw[hv] at hT;have hTn:(σ.txns.getD 6 none).isSome=true:=hT.symm;rw[hv] at e6;have hnew:liveTo σ (6+1)=liveTo σ 6++[6]:=by rw[HS.out.1,hTn];simp
      have HN:=zH hnew;have hix:∀ w',(Instr.index 97 (.agg #[.pointer (tv 0),.pointer (tv 1),.pointer (tv 2),.pointer (tv 3),.pointer (tv 4),.pointer (tv 5),.pointer (some ad),.pointer (tv 7)]) (zi ((6:Nat):Int))).run Tryz.prog w'=.ok (.pointer (some ad)) w':=fun w'=>by kernel_rfl
      clear hT hTn hnew;go_wp2_with (first|(refine wpList_index rfl (.tmp 9) (.tmp 10) 97 rfl (hix _) ?_)|(refine wp_int _ rfl _ _ rfl w (by assumption) _ _ _ _ rfl (by assumption) (by omega) _ rfl ?_;intro avl capl wl ql pl))
      go_roundw
      case rel=>exact⟨6+1,by omega,rfl,pl,avl,capl,by rw[HN.out,List.length_append,HS.out.2.1];rfl,by rw[HN.out,List.length_append,HS.out.2.1,List.map_append,HS.out.2.2.1];exact ql⟩
      case measure=>simp[intOf]
    |7,_=>
     cases hv:tv 7 with
     |none=>
      rw[hv] at hT;have hTn:(σ.txns.getD 7 none).isSome=false:=hT.symm;rw[hv] at e7;have hnew:liveTo σ (7+1)=liveTo σ 7:=by rw[HS.out.1,hTn];simp
      have HN:=zH hnew;have hix:∀ w',(Instr.index 97 (.agg #[.pointer (tv 0),.pointer (tv 1),.pointer (tv 2),.pointer (tv 3),.pointer (tv 4),.pointer (tv 5),.pointer (tv 6),.pointer none]) (zi ((7:Nat):Int))).run Tryz.prog w'=.ok (.pointer none) w':=fun w'=>by kernel_rfl
      have HO:=zH (zA hown hb);clear hT hTn hnew hown hb;go_wp2_with (refine wpList_index rfl (.tmp 9) (.tmp 10) 97 rfl (hix _) ?_)
      go_roundw
      case rel=>exact⟨7+1,by omega,rfl,HO.out.2,av,cap,by rw[HN.out,HS.out.2.1],by rw[HN.out,HS.out.2.1,HS.out.2.2.1];exact HO.out.1⟩
      case measure=>simp[intOf]
     |some ad=>
      rw[hv] at hT;have hTn:(σ.txns.getD 7 none).isSome=true:=hT.symm;rw[hv] at e7;have hnew:liveTo σ (7+1)=liveTo σ 7++[7]:=by rw[HS.out.1,hTn];simp
      have HN:=zH hnew;have hix:∀ w',(Instr.index 97 (.agg #[.pointer (tv 0),.pointer (tv 1),.pointer (tv 2),.pointer (tv 3),.pointer (tv 4),.pointer (tv 5),.pointer (tv 6),.pointer (some ad)]) (zi ((7:Nat):Int))).run Tryz.prog w'=.ok (.pointer (some ad)) w':=fun w'=>by kernel_rfl
      clear hT hTn hnew;go_wp2_with (first|(refine wpList_index rfl (.tmp 9) (.tmp 10) 97 rfl (hix _) ?_)|(refine wp_int _ rfl _ _ rfl w (by assumption) _ _ _ _ rfl (by assumption) (by omega) _ rfl ?_;intro avl capl wl ql pl))
      go_roundw
      case rel=>exact⟨7+1,by omega,rfl,pl,avl,capl,by rw[HN.out,List.length_append,HS.out.2.1];rfl,by rw[HN.out,List.length_append,HS.out.2.1,List.map_append,HS.out.2.2.1];exact ql⟩
      case measure=>simp[intOf]
    |k+8,h=>omega
  · obtain rfl:k=8:=by omega
    clear hlt hT hk hm0;have HO:=zH (zA hown hb);clear hown hb;go_wp2;go_ret;rw[HS.out.2.1,HS.out.2.2.1];exact⟨av,cap,rfl,HO.out.1,HO.out.2⟩
end Go.Proofs.YtpkenfnmkpmapaaGreat.Em
