import Derived.Test.YtiimlopcifljeaaGreatDoorQk25
namespace Go.Proofs.YtiimlopcifljeaaGreatDoor.Cn
open Go.ChangeShapes Go.WideShapes Go.ChangeAt Go.RowKit Go.Shelf Em En
set_option linter.unusedVariables false
set_option linter.unusedSimpArgs false
set_option maxRecDepth 100000
set_option maxHeartbeats 1600000
def Dgs (n k:Nat) (t:Tt.Bs):Prop:=(t=[]∧k=n)∨(t≠[]∧((k=0∧t=Tt.dg n)∨(0<k∧Tt.dg n=Tt.dg k++t)))
theorem Dgs.step {n k:Nat} {t:Tt.Bs} (h:Dgs n k t) (hk:0<k∨t=[]):Dgs n (k / 10) (UInt8.ofNat (48+k % 10)::t):=by
 have e:Tt.dg n=Tt.dg k++t:=by
  rcases h with ⟨rfl,rfl⟩|⟨h1,⟨h2,h3⟩|⟨h2,h3⟩⟩
  · simp
  · rcases hk with hk|hk
    · omega
    · exact absurd hk h1
  · exact h3
 refine .inr ⟨by simp,?_⟩
 by_cases h10:k<10
 · refine .inl ⟨by omega,?_⟩
   rw[e,Tt.dg_lt h10,Nat.mod_eq_of_lt h10];rfl
 · refine .inr ⟨by omega,?_⟩
   rw[e,Tt.dg_ge h10,List.append_assoc];rfl
theorem Dgs.len {n k:Nat} {t:Tt.Bs} (h:Dgs n k t) (hn:n<1000000000):t.length≤9∧k<1000000000:=by
 have hl:=Tt.dg_len 8 n (by omega)
 rcases h with ⟨rfl,rfl⟩|⟨h1,⟨h2,h3⟩|⟨h2,h3⟩⟩
 · exact⟨by simp,hn⟩
 · rw[h3];exact⟨hl,by omega⟩
 · rw[h3,List.length_append] at hl
   refine⟨by omega,?_⟩;have hk:=Tt.dg_val k;have h4:=val_lt (Tt.dg k) (Tt.dg_all k);rw[hk] at h4;have h5:10 ^ (Tt.dg k).length≤10 ^ 9:=Nat.pow_le_pow_right (by decide) (by omega);omega
theorem Dgs.done {n k:Nat} {t:Tt.Bs} (h:Dgs n k t) (hk:k=0) (ht:t≠[]):t=Tt.dg n:=by
 rcases h with ⟨rfl,rfl⟩|⟨h1,⟨h2,h3⟩|⟨h2,h3⟩⟩
 · exact absurd rfl ht
 · exact h3
 · omega
theorem dig_one:∀ d,d<10→((⟨#[48,49,50,51,52,53,54,55,56,57]⟩:ByteArray).extract d (d+1)).data.toList=[UInt8.ofNat (48+d)]:=by
 decide +kernel
theorem oct_one:∀ d,d<8→((⟨#[48,49,50,51,52,53,54,55]⟩:ByteArray).extract d (d+1)).data.toList=Tt.dg d:=by
 intro d hd;rw[Tt.dg_lt (by omega)]
 revert d
 decide +kernel
theorem dig_at {t:Tt.Bs} (d:Nat) (h:d<10):((⟨#[48,49,50,51,52,53,54,55,56,57]⟩:ByteArray).extract d (d+1)).data.toList++t=UInt8.ofNat (48+d)::t:=by rw[dig_one d h];rfl
def dgM (tv kv:Value):Nat:=(match kv with|.int _ z=>z.toNat|_=>0)+(match tv with|.string s=>if s.size=0 then 1 else 0|_=>0)
def nmX (u t : ByteArray) : List ByteArray := [(⟨#[115, 116, 101, 112, 32]⟩ ++ u) ++ ⟨#[32, 48]⟩ ++ t, (⟨#[115, 116, 101, 112, 32]⟩ ++ u) ++ ⟨#[32, 45]⟩ ++ t, (⟨#[115, 116, 101, 112, 32]⟩ ++ u) ++ ⟨#[32, 49, 48, 48, 48, 48, 48, 48, 48, 48, 48]⟩, ⟨#[115, 116, 101, 112, 32]⟩ ++ u,
  (⟨#[115,116,101,112,32]⟩++u)++⟨#[32]⟩++t++⟨#[32,49]⟩,(⟨#[115,116,101,112,32,32]⟩++u)++⟨#[32]⟩++t,(⟨#[32,115,116,101,112,32]⟩++u)++⟨#[32]⟩++t,(⟨#[115,116,101,112,32]⟩++u)++⟨#[32]⟩++t++⟨#[32]⟩]
theorem bl_app (a b:ByteArray):bl (a++b)=bl a++bl b:=by simp[bl]
theorem cmR_none {s:ByteArray} (hs:s.size≤100) {x:Tt.Bs} (hx:bl s=x) (h:Tt.refCmd x=none):cmR s=([0,0,0,0],3):=by
 unfold cmR;rw[if_neg (by omega),hx,h];rfl
theorem szl (l:List UInt8):(⟨l.toArray⟩:ByteArray).size=l.length:=rfl
theorem nm_texts {u t:ByteArray} {a n:Nat} (hu:bl u=Tt.dg a) (ht:bl t=Tt.dg n) (ha:a<8) (hn:n<1000000000) (us:u.size=1) (ts:t.size≤9):
 cmR ((⟨#[115,116,101,112,32]⟩++u)++⟨#[32]⟩++t)=([16,(a:Int),(n:Int),0],0)∧∀ x∈nmX u t,cmR x=([0,0,0,0],3):=by
 constructor
 · unfold cmR
   have e:bl ((⟨#[115,116,101,112,32]⟩++u)++⟨#[32]⟩++t)=Tt.jn 32 [Tt.stB,Tt.dg a,Tt.dg n]:=by simp[bl_app,hu,ht,Tt.jn,Tt.stB];rfl
   rw[if_neg (by simp only[ByteArray.size_append,us,szl,List.length_cons,List.length_nil];omega),e,Tt.ref_good ha hn];rfl
 · intro x hx
   simp only[nmX,List.mem_cons,List.not_mem_nil,or_false] at hx
   rcases hx with rfl|rfl|rfl|rfl|rfl|rfl|rfl|rfl
   · exact cmR_none (by simp only[ByteArray.size_append,us,szl,List.length_cons,List.length_nil];omega) (by simp[bl_app,hu,ht,Tt.jn,Tt.stB];rfl) (Tt.ref_nought (n:=n) ha)
   · exact cmR_none (by simp only[ByteArray.size_append,us,szl,List.length_cons,List.length_nil];omega) (by simp[bl_app,hu,ht,Tt.jn,Tt.stB];rfl) (Tt.ref_minus (n:=n) ha)
   · exact cmR_none (by simp only[ByteArray.size_append,us,szl,List.length_cons,List.length_nil];omega) (by simp[bl_app,hu,ht,Tt.jn,Tt.stB];rfl) (Tt.ref_ten ha)
   · exact cmR_none (by simp only[ByteArray.size_append,us,szl,List.length_cons,List.length_nil];omega) (by simp[bl_app,hu,ht,Tt.jn,Tt.stB];rfl) (Tt.ref_few a)
   · exact cmR_none (by simp only[ByteArray.size_append,us,szl,List.length_cons,List.length_nil];omega) (by simp[bl_app,hu,ht,Tt.jn,Tt.stB];rfl) (Tt.ref_one a n)
   · exact cmR_none (by simp only[ByteArray.size_append,us,szl,List.length_cons,List.length_nil];omega) (by simp[bl_app,hu,ht,Tt.jn,Tt.stB];rfl) (Tt.ref_gap a n)
   · exact cmR_none (by simp only[ByteArray.size_append,us,szl,List.length_cons,List.length_nil];omega) (by simp[bl_app,hu,ht,Tt.jn,Tt.stB];rfl) (Tt.ref_ahead a n)
   · exact cmR_none (by simp only[ByteArray.size_append,us,szl,List.length_cons,List.length_nil];omega) (by simp[bl_app,hu,ht,Tt.jn,Tt.stB];rfl) (Tt.ref_end a n)
theorem numbers_any (n0 s0:Int) (w:World) (hL:LibV w):Calls Tryz.prog 3 #[.int .i64 n0,.int .i64 s0] w fun e w'=>e=.returned (.bool true)∧Below w.heap.size w w':=by
 obtain⟨n,hn,hnn⟩:∃ n:Nat,n<1000000000∧(bits .and .i64 n0 1099511627775).tmod 1000000000=(n:Int):=by
  have e:bits .and .i64 n0 1099511627775=n0 % 1099511627776:=Bt.and_mask_i64 n0 40 (by omega);rw[e];have h0:0≤n0 % 1099511627776:=Int.emod_nonneg _ (by decide);have h1:=Int.tmod_nonneg 1000000000 h0;have h2:=Int.tmod_lt_of_pos (n0 % 1099511627776) (b:=1000000000) (by omega);exact⟨((n0 % 1099511627776).tmod 1000000000).toNat,by omega,by omega⟩
 obtain⟨a,ha,haa⟩:∃ a:Nat,a<8∧bits .and .i64 s0 7=(a:Int):=by
  rw[Bt.i64_and7];exact⟨(s0 % 8).toNat,by omega,by omega⟩
 go_enter Tryz.func3,Tryz.ntmps3;go_wp2
 go_loopw [5,6] (fun tv kv wr=>∃ (k:Nat) (t:ByteArray),kv=.int .i64 (k:Int)∧tv=.string t∧Dgs n k t.data.toList∧w=wr) (fun tv kv _=>dgM tv kv)
 case atStart=>exact⟨n,⟨#[]⟩,rfl,rfl,.inl ⟨rfl,rfl⟩,rfl⟩
 case round=>
  obtain⟨k,t,rfl,rfl,hD,rfl⟩:=hrel;obtain⟨hl9,hk9⟩:=hD.len hn;have HD:=Lib.hid hD;clear hD;have hs1:¬ 9223372036854775807<((⟨#[48,49,50,51,52,53,54,55,56,57]⟩:ByteArray).extract (k % 10) (k % 10+1)).size+t.size:=by
   have e1:((⟨#[48,49,50,51,52,53,54,55,56,57]⟩:ByteArray).extract (k % 10) (k % 10+1)).size≤10:=by
    rw[ByteArray.size_extract];have e2:(⟨#[48,49,50,51,52,53,54,55,56,57]⟩:ByteArray).size=10:=rfl;omega
   have:=size_list t;omega
  have hend:∀ (K:Prop),(0<k∨t.data.toList=[])→(∃ (k1:Nat) (t1:ByteArray),Value.int IntKind.i64 ((k:Int) / 10)=Value.int IntKind.i64 (k1:Int)∧Value.string ((⟨#[48,49,50,51,52,53,54,55,56,57]⟩:ByteArray).extract (k % 10) (k % 10+1)++t)=Value.string t1∧Dgs n k1 t1.data.toList∧True):=by
   intro K hgo;refine⟨k / 10,_,by rw[Int.natCast_ediv];rfl,rfl,?_,trivial⟩;have:=HD.out.step hgo;rw[←dig_at (k % 10) (Nat.mod_lt _ (by decide))] at this;have e:((⟨#[48,49,50,51,52,53,54,55,56,57]⟩:ByteArray).extract (k % 10) (k % 10+1)++t).data.toList=((⟨#[48,49,50,51,52,53,54,55,56,57]⟩:ByteArray).extract (k % 10) (k % 10+1)).data.toList++t.data.toList:=by simp
   rw[e];exact this
  have hms:∀ (x y:ByteArray),(⟨#[48,49,50,51,52,53,54,55,56,57]⟩:ByteArray).extract (k % 10) (k % 10+1)=x→((x++y).size=0)=False:=by
   intro x y hx;have e1:x.size=1:=by
    rw[←hx,←size_list,dig_one _ (Nat.mod_lt _ (by decide))];rfl
   rw[ByteArray.size_append,e1];simp
  by_cases hk0:0<k
  · have c1:((0:Int)<(k:Int))=True:=by simp;omega
    have c2:decide ((0:Int)<(k:Int))=true:=by simp;omega
    go_wp2
    case roundEnd=>
     refine⟨hend True (.inl hk0),?_⟩;unfold dgM;simp only[hms _ _ rfl,if_false];show ((k:Int) / 10).toNat+0<((k:Int)).toNat+_;omega
  · obtain rfl:k=0:=by omega
    by_cases ht:t=⟨#[]⟩
    · subst ht
      go_wp2
      case roundEnd=>
       refine⟨hend True (.inr rfl),?_⟩;unfold dgM;simp only[hms _ _ rfl,if_false]
       decide
    · have t1:t.toList.isEmpty=false:=by
       rw[ByteArray.toList_eq,←Bool.not_eq_true,List.isEmpty_iff];intro e;exact ht (by cases t with|mk d=>exact congrArg ByteArray.mk (Array.toList_eq_nil_iff.1 e))
      have t2 : t.data.toList = Tt.dg n := HD.out.done rfl (fun e => ht (by
        cases t with|mk d=>exact congrArg ByteArray.mk (Array.toList_eq_nil_iff.1 e)))
      have ts:t.size≤9:=by rw[←size_list];exact hl9
      clear hend hms HD hs1 hk0 hk9;obtain⟨u,hu⟩:∃ u,(⟨#[48,49,50,51,52,53,54,55]⟩:ByteArray).extract a (a+1)=u:=⟨_,rfl⟩
      have ud:u.data.toList=Tt.dg a:=by rw[←hu,oct_one a ha]
      have us:u.size=1:=by rw[←size_list,ud,Tt.dg_lt (by omega)];rfl
      have HB1:Hid (bl u=Tt.dg a∧bl t=Tt.dg n):=⟨ud,t2⟩
      have hc:=nm_texts HB1.out.1 HB1.out.2 ha hn us ts;have HP:=Lib.hid (fun W hW=>parse_at hc.1 (w:=W) hW);have HQ:=Lib.hid hc.2;have HL:=Lib.hid hL;clear hc t2 ud hn ht hl9 hL;go_wp2_with (go_at_call 6;refine (HP.out _ HL.out).mono ?_;rintro e w1 ⟨rfl,hb⟩;have B1:=Lib.hid hb;clear hb);have hrow:=heap_alloc_new (w1.alloc (.cells #[.int .i64 16,.int .i64 (a:Int),.int .i64 (n:Int),.int .i64 0] 23)) (.cells ((nmX u t).map Value.string).toArray 9);have hbel:=((Below.refl w.heap.size w).trans B1.out).alloc (B1.out.size) (.cells #[.int .i64 16,.int .i64 (a:Int),.int .i64 (n:Int),.int .i64 0] 23) |>.alloc (by have:=B1.out.size;simp;omega) (.cells ((nmX u t).map Value.string).toArray 9)
      change ((w1.alloc (.cells #[.int .i64 16,.int .i64 (a:Int),.int .i64 (n:Int),.int .i64 0] 23)).alloc (.cells ((nmX u t).map Value.string).toArray 9)).heap[(w1.alloc (.cells #[.int .i64 16,.int .i64 (a:Int),.int .i64 (n:Int),.int .i64 0] 23)).heap.size]? =_ at hrow;have hsz:(w1.alloc (.cells #[.int .i64 16,.int .i64 (a:Int),.int .i64 (n:Int),.int .i64 0] 23)).heap.size=w1.heap.size+1:=by simp
      rw[hsz] at hrow;have hX:∀ k,k<8→∃ x,x∈nmX u t∧(((nmX u t).map Value.string).toArray)[k]? =some (.string x):=by
       intro k hk;have hl:k<(nmX u t).length:=hk;refine⟨(nmX u t)[k],List.getElem_mem hl,?_⟩;simp[List.getElem?_eq_getElem hl]
      have HX:Hid (∀ k,k<8→∃ x,(((nmX u t).map Value.string).toArray)[k]? =some (.string x)∧∀ W,LibV W→Calls Tryz.prog 6 #[.string x] W fun e w'=>e=.returned (.tuple #[.agg #[.int .i64 0,.int .i64 0,.int .i64 0,.int .i64 0],.int .i64 3])∧Below W.heap.size W w'):=by
       intro k hk;obtain⟨x,h1,h2⟩:=hX k hk;exact⟨x,h2,fun W hW=>parse_at (HQ.out x h1) hW⟩
      change Code.wp _ _ _ _ ((w1.alloc (.cells #[.int .i64 16,.int .i64 (a:Int),.int .i64 (n:Int),.int .i64 0] 23)).alloc (.cells ((nmX u t).map Value.string).toArray 9));generalize (w1.alloc (.cells #[.int .i64 16,.int .i64 (a:Int),.int .i64 (n:Int),.int .i64 0] 23)).alloc (.cells ((nmX u t).map Value.string).toArray 9)=w2 at*;generalize w1.heap.size=g1 at*;have HB2:=Lib.hid (And.intro hrow hbel);have HA:=Lib.hid (fun (w':World) (h:Below w.heap.size w w')=>awake28 w' (HL.out.below h));have HL2:=Lib.hid (fun (w':World) (h:Below w.heap.size w w')=>HL.out.below h);clear hrow hbel hX HQ HP HL B1 hu us ts t1 HB1 hsz ha
      go_loopw [98] (fun i wr=>∃ k:Nat,i=.int .i64 (k:Int)∧k≤8∧Below w2.heap.size w2 wr) (fun i _=>msr 8 i)
      case atStart=>exact⟨0,rfl,by omega,Below.refl _ _⟩
      case round=>
       obtain⟨k,rfl,hk,hb⟩:=hrel;have hg1:g1+1<w2.heap.size:=(Array.getElem?_eq_some_iff.1 HB2.out.1).1
       by_cases hk8:k<8
       · obtain⟨x,hx,hP⟩:=HX.out k hk8
         have c1:wr.cell? ⟨g1+1,k,none⟩=some (.string x):=by rw[cell_of_row _ _ _ _ _ _ ((hb.block _ hg1).trans HB2.out.1)];exact hx
         have c2:(k:Int)<8:=by omega
         have HPk:=Lib.hid (hP wr (HL2.out _ (HB2.out.2.trans (hb.mono HB2.out.2.size))));have HBk:=Lib.hid hb;clear hP hx hb;go_wp2_with (go_at_call 6;refine HPk.out.mono ?_;rintro e w3 ⟨rfl,hb3⟩;have B3:=Lib.hid hb3;clear hb3)
         case roundEnd=>exact⟨⟨k+1,rfl,hk8,(HBk.out.trans (B3.out.mono HBk.out.size)).alloc (Nat.le_trans HBk.out.size B3.out.size) _⟩,by unfold msr;show 8 - ((k:Int)+1).toNat<8 - (k:Int).toNat;omega⟩
       · obtain rfl:k=8:=by omega
         have HBk:=Lib.hid (HB2.out.2.trans (hb.mono HB2.out.2.size));clear hb;go_wp2_with (go_at_call 7;refine (HA.out _ HBk.out).mono ?_;rintro e w3 ⟨rfl,hb3⟩;have B3:=Lib.hid hb3;clear hb3);go_ret;exact⟨rfl,HBk.out.trans (B3.out.mono HBk.out.size)⟩
end Go.Proofs.YtiimlopcifljeaaGreatDoor.Cn
