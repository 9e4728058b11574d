import Derived.Deep.CutRange
import Derived.Test.YtiimlopcifljeaaGreatDoorQk11
import Derived.BigRegion
import Derived.Lib.AtoiAll
import Derived.Lib.ItoaNum
import Derived.Lib.Split
import Derived.Lib.SplitLaws
import Derived.Shelf.Strings.Builder1
import Derived.Shelf.Strings.Builder2
import Derived.Shelf.Strings.OnBuilder
import Derived.Shelf.Small.Bits
import Derived.Shelf.Utf8.RuneCount
import Derived.Shelf.Strconv.Atoi
import Derived.Shelf.Strconv.Itoa0
import Derived.Shelf.Strconv.Itoa1
import Derived.Shelf.LaysM
import Derived.Shelf.Strconv.Itoa2
import Derived.Shelf.Strconv.Itoa3
import Derived.Shelf.Strconv.AtoiErrFast
import Derived.Shelf.Strconv.ParseIntEmpty
import Derived.Shelf.Strconv.AtoiFail
import Derived.Shelf.Strconv.Clone
import Derived.Shelf.Strconv.SyntaxError
import Derived.Shelf.LaysC
import Derived.Shelf.Strconv.ToError
import Derived.Shelf.Strconv.Lower
import Derived.Shelf.Strconv.ParseUint10
import Derived.Shelf.Strconv.ParseUint10Empty
import Derived.Shelf.Strconv.ParseUint10Any
import Derived.Shelf.Strconv.ParseInt10
import Derived.Shelf.Strconv.AtoiLong
import Derived.Shelf.Strconv.AtoiInnerAll
import Derived.Shelf.Strconv.RangeError
import Derived.Shelf.Strconv.ToErrorRange
import Derived.Shelf.Strconv.AtoiAll
import Derived.Shelf.Strconv.ErrVarAll
import Derived.Shelf.Strings.Search1
import Derived.Shelf.Strings.Search2
import Derived.Shelf.Strings.Search3
import Derived.Shelf.Strings.Count
import Derived.Shelf.Strings.Shaped
import Derived.Shelf.Strings.Split
import Derived.Shelf.Strings.SplitShaped
import Derived.Shelf.Unicode.Decode
import Derived.Shelf.Strings.RuneCount
import Derived.Shelf.Strings.Explode
import Derived.Shelf.Unicode.DecodeSlow
import Derived.Shelf.Unicode.DecodeAny
import Derived.Ground.Names2Prog
import Derived.Shelf.Slices.SearchI
import Derived.Lib.SmallJoins
import Derived.Test.YtiimlopcifljeaaGreatDoorRows
import Derived.Lib.LaidTab
import Derived.Shelf.Vars
import Derived.LaidLaws
import Derived.LaidHandle
import Derived.LaidMore
import Derived.Handed
import Derived.SizedLaws
import Derived.MakeChecks
namespace Go.Proofs.YtiimlopcifljeaaGreatDoor.Cn
open Go.ChangeShapes Go.WideShapes Go.ChangeAt Go.RowKit
set_option linter.unusedVariables false
set_option linter.unusedSimpArgs false
set_option maxRecDepth 100000
set_option maxHeartbeats 1600000
theorem size_list (s:ByteArray):s.data.toList.length=s.size:=Array.length_toList
theorem val_lt:∀ (l:Tt.Bs),l.all Tt.isD=true→Tt.val l<10 ^ l.length:=by
 have:∀ (l:Tt.Bs) (acc k:Nat),l.all Tt.isD=true→acc<10 ^ k→l.foldl (fun n c=>10*n+(c.toNat - 48)) acc<10 ^ (k+l.length):=by
  intro l
  induction l with
  |nil=>intro acc k _ h;exact h
  |cons x t ih=>
   intro acc k hl h;rw[List.all_cons,Bool.and_eq_true] at hl;have hx:=hl.1;unfold Tt.isD at hx;simp at hx;have:=ih (10*acc+(x.toNat - 48)) (k+1) hl.2 (by rw[Nat.pow_succ];omega);rw[List.length_cons,show k+(t.length+1)=k+1+t.length by omega];exact this
 intro l h;have:=this l 0 0 h (by decide)
 rwa [Nat.zero_add] at this
theorem wrap64_id {x:Int} (h0:-9223372036854775808≤x) (h1:x<9223372036854775808):wrap64 x=x:=by unfold wrap64;omega
theorem num_any (s:ByteArray) (w:World):Calls Tryz.prog 19 #[.string s] w fun e w'=>e=.returned (.tuple #[.int .i64 (((Tt.n9 s.data.toList).getD 0:Nat):Int),.bool (Tt.n9 s.data.toList).isSome])∧w=w':=by
 have hl:=size_list s;have HL:=Lib.hid (ByteArray.toList_eq s)
 by_cases h0:s.size=0
 · have he:s.toList.isEmpty=true:=by rw[HL.out,List.isEmpty_iff];exact List.length_eq_zero_iff.1 (by omega)
   go_enter Tryz.func19,Tryz.ntmps19;go_wp2;refine bodyPost_ret (results_tmp2 rfl _ _ _) rfl ?_;refine⟨?_,rfl⟩;rw[HL.out,List.isEmpty_iff] at he;rw[he];rfl
 have he:s.toList.isEmpty=false:=by
  rw[HL.out,←Bool.not_eq_true,List.isEmpty_iff];intro e;rw[e] at hl;exact h0 hl.symm
 by_cases h9:9<s.size
 · have b2:(9:Int)<(s.size:Int):=by omega
   have hn:Tt.n9 s.data.toList=none:=by unfold Tt.n9;rw[if_pos (.inr (.inl (by omega)))]
   rw[hn];go_enter Tryz.func19,Tryz.ntmps19;go_wp2;exact bodyPost_ret (results_tmp2 rfl _ _ _) rfl ⟨rfl,rfl⟩
 have b2:¬ (9:Int)<(s.size:Int):=by omega
 have b3:0<s.size:=by omega
 have hb:∀ (k:Nat) (h:k<s.size),s.data.toList[k]? =some s[k]:=fun k h=>by
  rw[List.getElem?_eq_getElem (by rw[size_list];exact h)];rfl
 have HB:=Lib.hid hb;clear hb;have HH:Hid (s.data.toList.head? =some s[0]):=by
  show _=_;rw[List.head?_eq_getElem?];exact HB.out 0 b3
 go_enter Tryz.func19,Tryz.ntmps19;go_wp2
 all_goals try (exact bodyPost_ret (results_tmp2 rfl _ _ _) rfl ⟨by
   rename_i h1 h2
   have h3:s[0]=48:=by
     apply UInt8.toNat_inj.1;have:(48:UInt8).toNat=48:=rfl;omega
   have hn:Tt.n9 s.data.toList=none:=by unfold Tt.n9;rw[if_pos (.inr (.inr ⟨by rw[HH.out,h3],by omega⟩))]
   rw[hn];rfl,rfl⟩)
 all_goals
  have HN:Hid (Tt.n9 s.data.toList=if s.data.toList.all Tt.isD=true then some (Tt.val s.data.toList) else none):=by
   have h7:(48:UInt8).toNat=48:=rfl;show _=_;unfold Tt.n9;rw[if_neg];rintro (e|e|⟨e1,e2⟩)
   · rw[e] at hl;exact h0 hl.symm
   · omega
   · rw[HH.out] at e1
     have h8:=congrArg UInt8.toNat (Option.some.inj e1);omega
  have HS:=Lib.hid (And.intro hl h9);clear hl h0 he h9
  go_loopw [4,5] (fun n i wr=>∃ k:Nat,i=.int .i64 (k:Int)∧k≤s.size∧(s.data.toList.take k).all Tt.isD=true∧n=.int .i64 (Tt.val (s.data.toList.take k):Nat)∧w=wr) (fun _ i _=>match i with|.int _ z=>s.size - z.toNat|_=>0)
  case atStart=>exact⟨0,rfl,Nat.zero_le _,rfl,rfl,rfl⟩
  case round=>
   obtain⟨k,rfl,hk,ha,rfl,rfl⟩:=hrel
   by_cases hend:k=s.size
   · subst hend
     rw[←HS.out.1,List.take_length] at ha;have he:Tt.n9 s.data.toList=some (Tt.val s.data.toList):=by rw[HN.out,if_pos ha]
     have hv:Tt.val (s.data.toList.take s.size)=Tt.val s.data.toList:=by rw[←HS.out.1,List.take_length]
     go_wp2;refine bodyPost_ret (results_tmp2 rfl _ _ _) rfl ⟨?_,rfl⟩;rw[he,hv];rfl
   · have hlt:k<s.size:=by omega
     have hc:=HB.out k hlt;have HV:Hid (Tt.val (s.data.toList.take k)<10 ^ k∧k≤8):=by
      have:=HS.out.1;have:=HS.out.2;refine⟨?_,by omega⟩;have:=val_lt (s.data.toList.take k) ha
      rwa [List.length_take,Nat.min_eq_left (by omega)] at this
     have HT:Hid (s.data.toList.take (k+1)=s.data.toList.take k++[s[k]]):=by
      show _=_;rw[List.take_add_one,hc];rfl
     have HF:Hid (¬ Tt.isD s[k]=true→Tt.n9 s.data.toList=none):=by
      intro hn;rw[HN.out,if_neg];intro h;exact hn (List.all_eq_true.1 h _ (List.mem_of_getElem? hc))
     have HA:=Lib.hid ha;clear hc ha;go_wp2
     all_goals first
      | (refine bodyPost_ret (results_tmp2 rfl _ _ _) rfl ⟨?_, rfl⟩
         rw[HF.out (by unfold Tt.isD;simp;omega)];rfl)
      | (have h10 : 10 ^ k ≤ 10 ^ 8 := Nat.pow_le_pow_right (by omega) HV.out.2
         have h8:(10:Nat) ^ 8=100000000:=rfl
         have hv:=HV.out.1
         refine⟨⟨k+1,by push_cast;rfl,by omega,?_,?_,trivial⟩,by show s.size - ((k:Int)+1).toNat<s.size - (k:Int).toNat;omega⟩
         · rw[HT.out,List.all_append,HA.out];simp[Tt.isD];omega
         · rw[HT.out,Tt.val_snoc,wrap64_id (x:=10*_) (by omega) (by omega),wrap64_id (by omega) (by omega)]
           congr 1;omega)
theorem infoS:(Tryz.prog.info? 9).map (fun i=>(i.zero,i.size,i.bytes))=some (some (.string ⟨#[]⟩),1,16):=by kernel_rfl
theorem append_S {ops:Array Oper} {rest:List Oper} {o:Oper} {a:Act} {Q:Exit→Act→World→Prop} (w:World) (hgd:o.guard=none) (s x:Operand)
 (ho:o.op=.call {callee:=.builtin .append,args:=#[s,x],argTypes:=#[27,27]})
 (base:Nat) (v:Value) (n:Nat) (xs:List Value) (hs:a.eval s=v) (hown:w.ownsRow base 9 1 v n xs)
 (ad:Addr) (c:Nat) (u:Value) (hx:a.eval x=.slice (some ad) 1 c) (hnews:∀ j y,[u][j]? =some y→w.cell? (ad.add j)=some y) (h1:u.oneCell'=true)
 (hn:n<1000000) (hbase:base≤w.heap.size)
 (h:∀ v' w',w'.ownsRow base 9 1 v' (n+1) (xs++[u])→w.grownBy w' v.ownBlock→wpList Tryz.prog ops Q rest (a.put o.dst v') w'):wpList Tryz.prog ops Q (o::rest) a w:=by
 obtain⟨i0,hi,hz0,hz1,hz2⟩:=info_parts infoS;exact wpList_append_own w hgd s x _ ho base _ i0 _ 1 16 Tryz.underlying27 hi hz0 hz1 hz2 rfl (by decide) v n xs hs hown ad 1 c [u] hx (by simp) hnews (by intro y hy;obtain rfl:=List.mem_singleton.1 hy;exact h1) (by unfold maxLen;omega) (by omega) hbase (fun v' w' h2 h3 _=>h v' w' h2 h3)
def bl (s:ByteArray):Tt.Bs:=s.data.toList
theorem bl_ext (s:ByteArray) (a b:Nat):bl (s.extract a b)=((bl s).take b).drop a:=by
 unfold bl;rw[ByteArray.data_extract,Array.toList_extract,List.extract_eq_take_drop,List.drop_take]
theorem sp_piece {c:UInt8} {l:Tt.Bs} {f k:Nat} (hf:f≤k) (hk:k<l.length) (hc:l[k]? =some c) (hn:∀ j,f≤j→j<k→l[j]? ≠some c):
 Tt.sp c (l.drop f)=((l.take k).drop f)::Tt.sp c (l.drop (k+1)):=by
 have e:l.drop f=((l.take k).drop f)++c::l.drop (k+1):=by
  have h1:l=l.take k++c::l.drop (k+1):=by
   rw[List.getElem?_eq_getElem hk] at hc;rw[←Option.some.inj hc,←List.drop_eq_getElem_cons hk,List.take_append_drop]
  have h2:=congrArg (List.drop f) h1;rw[List.drop_append_of_le_length (by rw[List.length_take];omega)] at h2;exact h2
 rw[e,Tt.sp_app _ (fun h=>?_)];obtain⟨j,hj,e2⟩:=List.mem_iff_getElem.1 h;rw[List.length_drop,List.length_take] at hj;have:=hn (f+j) (by omega) (by omega);apply this;rw[List.getElem_drop,List.getElem_take] at e2;rw[List.getElem?_eq_getElem (by omega),e2]
theorem sp_last {c:UInt8} {l:Tt.Bs} {f:Nat} (hn:∀ j,f≤j→j<l.length→l[j]? ≠some c):Tt.sp c (l.drop f)=[l.drop f]:=by
 refine Tt.sp_one (fun h=>?_);obtain⟨j,hj,e2⟩:=List.mem_iff_getElem.1 h;rw[List.length_drop] at hj;have:=hn (f+j) (by omega) (by omega);apply this;rw[List.getElem_drop] at e2;rw[List.getElem?_eq_getElem (by omega),e2]
def strs (l:List ByteArray):List Value:=l.map .string
def WdR (s:ByteArray) (w wr:World) (v:Value) (f k:Nat):Prop:=∃ ps:List ByteArray,ps.map bl++Tt.sp 32 ((bl s).drop f)=Tt.sp 32 (bl s)∧ps.length≤k∧(∀ j,f≤j→j<k→(bl s)[j]? ≠some 32)∧wr.ownsRow w.heap.size 9 1 v ps.length (strs ps)∧Below w.heap.size w wr
theorem words_any (s:ByteArray) (hs:s.size≤100000) (w:World):Calls Tryz.prog 17 #[.string s] w fun e w'=>∃ v ps,e=.returned v∧w'.ownsRow w.heap.size 9 1 v ps.length (strs ps)∧ps.map bl=Tt.sp 32 (bl s)∧Below w.heap.size w w':=by
 have hb:∀ (k:Nat) (h:k<s.size),(bl s)[k]? =some s[k]:=fun k h=>by
  unfold bl;rw[List.getElem?_eq_getElem (by rw[size_list];exact h)];rfl
 have HB:=Lib.hid hb;clear hb;have HS:=Lib.hid (And.intro hs (size_list s));clear hs;go_enter Tryz.func17,Tryz.ntmps17;go_wp2
 go_loopw [3,4,5] (fun v f i wr=>∃ fk k:Nat,f=.int .i64 (fk:Int)∧i=.int .i64 (k:Int)∧fk≤k∧k≤s.size∧WdR s w wr v fk k) (fun _ _ i _=>match i with|.int _ z=>s.size - z.toNat|_=>0)
 case atStart=>exact⟨0,0,rfl,rfl,Nat.le_refl _,Nat.zero_le _,[],rfl,Nat.le_refl _,(fun j h1 h2=>by omega),World.ownsRow_nil _ _ _ _,Below.refl _ _⟩
 case round=>
  obtain⟨fk,k,rfl,rfl,hf,hk,hW⟩:=hrel;obtain⟨ps,h1,h2,h3,h4,h5⟩:=hW;obtain⟨a,cap,rfl,_,_,_⟩:=Ow.own_form h4;have H3:=Lib.hid h3;have HBW:=Lib.hid h5
  by_cases hend:k=s.size
  · subst hend
    have hlen:ps.length<1000000:=by have:=HS.out.1;omega
    have hbs:w.heap.size≤wr.heap.size+1:=by have:=h5.size;omega
    have hP:Hid (ps.map bl++[bl (s.extract fk s.size)]=Tt.sp 32 (bl s)):=by
     show _=_;rw[←h1,sp_last (fun j h1 h2=>H3.out j h1 (by unfold bl at h2;rw[size_list] at h2;exact h2)),bl_ext,List.take_of_length_le (by unfold bl;rw[size_list];exact Nat.le_refl _)]
    clear h1 h2 h3 h5;go_wp2_with (at_builtin;refine append_S _ rfl (.tmp 25) (.tmp 29) rfl w.heap.size _ ps.length (strs ps) rfl (h4.alloc _) ⟨wr.heap.size,0,none⟩ 1 (.string (s.extract fk s.size)) rfl ?c1 rfl hlen ?c5 ?_)
    case c1=>exact Ow.new_row wr [_] _ _ rfl
    case c5=>simpa using hbs
    intro v' w2 q1 q2;go_wp2;refine bodyPost_ret (results_tmp rfl _ _ _) rfl ⟨v',ps++[s.extract fk s.size],rfl,?_,?_,?_⟩
    · rw[List.length_append];show w2.ownsRow _ _ _ _ (ps.length+1) _;rw[strs,List.map_append];exact q1
    · rw[List.map_append];exact hP.out
    · exact (HBW.out.alloc HBW.out.size _).grown q2 (by simpa using hbs) (fun g hg=>(h4.lt g hg).1)
  · have hlt:k<s.size:=by omega
    have hlen:ps.length<1000000:=by have:=HS.out.1;omega
    have hbs:w.heap.size≤wr.heap.size+1:=by have:=h5.size;omega
    have hc:=HB.out k hlt;have h48:(32:UInt8).toNat=32:=rfl;have HC:=Lib.hid hc;have H1:=Lib.hid h1;have H2:=Lib.hid h2;clear h1 h2 h3 h5 hc
    by_cases hch:s[k]=32
    · have hch':(s[k].toNat:Int)=32:=by rw[hch];rfl
      have HCH:=Lib.hid hch;have hP:Hid ((ps++[s.extract fk k]).map bl++Tt.sp 32 ((bl s).drop (k+1))=Tt.sp 32 (bl s)):=by
       show _=_;rw[←H1.out,sp_piece hf (by unfold bl;rw[size_list];exact hlt) (by rw[HC.out,HCH.out]) (fun j h1 h2=>H3.out j h1 h2),←bl_ext,List.map_append,List.append_assoc];rfl
      clear hch;go_wp2_with (at_builtin;refine append_S _ rfl (.tmp 16) (.tmp 21) rfl w.heap.size _ ps.length (strs ps) rfl (h4.alloc _) ⟨wr.heap.size,0,none⟩ 1 (.string (s.extract fk k)) rfl ?c1 rfl hlen ?c5 ?_)
      case c1=>exact Ow.new_row wr [_] _ _ rfl
      case c5=>simpa using hbs
      intro v' w2 q1 q2;go_wp2;have hw:=wrap64_id (x:=(k:Int)+1) (by omega) (by have:=HS.out.1;omega);rw[hw];refine⟨⟨k+1,k+1,rfl,rfl,Nat.le_refl _,by omega,ps++[s.extract fk k],hP.out,by have:=H2.out;simp;omega,fun j h1 h2=>by omega,?_,(HBW.out.alloc HBW.out.size _).grown q2 (by simpa using hbs) (fun g hg=>(h4.lt g hg).1)⟩,by show s.size - ((k:Int)+1).toNat<s.size - (k:Int).toNat;omega⟩;rw[List.length_append];show w2.ownsRow _ _ _ _ (ps.length+1) _;rw[strs,List.map_append];exact q1
    · have hch':¬ (s[k].toNat:Int)=32:=by
       intro e;apply hch;apply UInt8.toNat_inj.1;omega
      go_wp2;have hw:=wrap64_id (x:=(k:Int)+1) (by omega) (by have:=HS.out.1;omega);rw[hw];refine⟨⟨fk,k+1,rfl,rfl,by omega,by omega,ps,H1.out,by have:=H2.out;omega,fun j h1 h2=>?_,h4,HBW.out⟩,by show s.size - ((k:Int)+1).toNat<s.size - (k:Int).toNat;omega⟩
      by_cases e:j=k
      · subst e;rw[HC.out];exact fun e=>hch (Option.some.inj e)
      · exact H3.out j h1 (by omega)
def msr (n:Nat) (v:Value):Nat:=match v with|.int _ z=>n - z.toNat|_=>0
def nmB:List ByteArray:=Tt.cwL.map fun p=>⟨p.1.toArray⟩
def ndL:List Nat:=Tt.cwL.map (·.2)
theorem rows_any (w:World):Calls Tryz.prog 18 #[] w fun e w'=>e=.returned (.tuple #[.slice (some ⟨w.heap.size,0,none⟩) 16 16,.slice (some ⟨w.heap.size+1,0,none⟩) 16 16])∧
 w'.heap[w.heap.size]? =some (.cells (nmB.map Value.string).toArray 9)∧w'.heap[w.heap.size+1]? =some (.cells (ndL.map fun (n:Nat)=>Value.int .i64 (n:Int)).toArray 3)∧Below w.heap.size w w':=by
 go_enter Tryz.func18,Tryz.ntmps18;go_wp2;refine bodyPost_ret (results_tmp2 rfl _ _ _) rfl ⟨?_,?_,?_,?_⟩
 · simp
 · rw[heap_alloc_old _ _ (by simp),heap_alloc_new];rfl
 · have:=heap_alloc_new (w.alloc (.cells (nmB.map Value.string).toArray 9)) (.cells (ndL.map fun (n:Nat)=>Value.int .i64 (n:Int)).toArray 3)
   rw[World.size_alloc] at this;exact this
 · exact ((Below.refl _ _).alloc (Nat.le_refl _) _).alloc (by simp) _
theorem own_pos {w:World} {base:Nat} {e:TypeId} {size:Nat} {v:Value} {n:Nat} {xs:List Value} (h:w.ownsRow base e size v n xs) (hn:0<n):∃ g cap,v=.slice (some ⟨g,0,none⟩) n cap∧n≤cap∧cap≤maxLen∧base≤g∧g<w.heap.size:=by
 rcases h.2 with ⟨_,h0⟩|⟨g,cap,cur,hv,Z,hg,hnc,hcm,_⟩
 · omega
 · exact⟨g,cap,hv,hnc,hcm,Z,(Array.getElem?_eq_some_iff.1 hg).1⟩
theorem own_cell {w:World} {base:Nat} {e:TypeId} {g n cap:Nat} {xs:List Value} (h:w.ownsRow base e 1 (.slice (some ⟨g,0,none⟩) n cap) n xs) {j:Nat} {v:Value} (hv:xs[j]? =some v):w.cell? ⟨g,j,none⟩=some v:=by
 have hj:j<n:=by
  have:=(List.getElem?_eq_some_iff.1 hv).1;have:=h.1;omega
 have:=h.cellAt j (by omega);rw[this];exact hv
def nmAt (k:Nat):ByteArray:=nmB.getD k ⟨#[]⟩
def ndAt (k:Nat):Nat:=ndL.getD k 0
theorem nm_cell {w:World} {g:Nat} (h:w.heap[g]? =some (.cells (nmB.map Value.string).toArray 9)) {k:Nat} (hk:k<16):w.cell? ⟨g,k,none⟩=some (.string (nmAt k)):=by
 rw[cell_of_row w g k _ _ _ h];have hl:nmB.length=16:=rfl;simp[nmAt,hl,hk]
theorem nd_cell {w:World} {g:Nat} (h:w.heap[g]? =some (.cells (ndL.map fun (n:Nat)=>Value.int .i64 (n:Int)).toArray 3)) {k:Nat} (hk:k<16):w.cell? ⟨g,k,none⟩=some (.int .i64 (ndAt k:Int)):=by
 rw[cell_of_row w g k _ _ _ h];have hl:ndL.length=16:=rfl;simp[ndAt,hl,hk]
def cmOf:Option (Nat×List Nat)→List Int
 |none=>[0,0,0,0]
 |some (k,l)=>[k,(l.getD 0 0:Nat),(l.getD 1 0:Nat),(l.getD 2 0:Nat)]
def cmR (s:ByteArray):List Int×Int:=if 100<s.size then ([0,0,0,0],2) else (cmOf (Tt.refCmd (bl s)),if (Tt.refCmd (bl s)).isSome then 0 else 3)
theorem sp_len (c:UInt8):∀ l:Tt.Bs,(Tt.sp c l).length≤l.length+1
 |[]=>by simp[Tt.sp]
 |x::t=>by
  have:=sp_len c t;rw[Tt.sp_cons]
  split
  · simp;omega
  · cases h:Tt.sp c t with
    |nil=>simp
    |cons y r=>rw[h] at this;simp at this ⊢;omega
theorem refCmd_eq {s a : Tt.Bs} {t : List Tt.Bs} (h : Tt.sp 32 s = a :: t) : Tt.refCmd s = (match Tt.cwL.findIdx? (fun p => decide (p.1 = a)) with
    |none=>none
    |some i=>if t.length≠(Tt.cwL.getD i ([],0)).2 then none else (t.mapM Tt.n9).map fun l=>(i+1,l)):=by
 unfold Tt.refCmd;rw[h];rfl
def padN (l:List Nat):Array Value:=#[.int .i64 (l.getD 0 0:Nat),.int .i64 (l.getD 1 0:Nat),.int .i64 (l.getD 2 0:Nat)]
theorem nd_le {k:Nat} (h:k<16):ndAt k≤3:=by
 have:∀ k,k<16→ndAt k≤3:=by decide
 exact this k h
theorem padN_get {l:List Nat} {q:Nat} (h:q<3):(padN l)[q]? =some (.int .i64 ((l.getD q 0:Nat):Int)):=by
 have:q=0∨q=1∨q=2:=by omega
 rcases this with rfl|rfl|rfl<;>rfl
theorem mapM_none {l:List Tt.Bs} {k:Nat} (h:(l.take k).mapM Tt.n9=none):l.mapM Tt.n9=none:=by
 rw[←List.take_append_drop k l,List.mapM_append,h];rfl
theorem padN_set {l:List Nat} {q x:Nat} (h:q<3) (hl:l.length=q):(padN l).setIfInBounds q (.int .i64 (x:Int))=padN (l++[x]):=by
 have:q=0∨q=1∨q=2:=by omega
 subst hl
 match l,h with
 |[],_=>rfl
 |[a],_=>rfl
 |[a,b],_=>rfl
 |a::b::c::t,h=>simp at h;omega
theorem nm_toList {k:Nat} (hk:k<16):(nmAt k).toList=(Tt.cwL.getD k ([],0)).1:=by
 have:∀ k,k<16→(nmAt k).data.toList=(Tt.cwL.getD k ([],0)).1:=by decide
 rw[ByteArray.toList_eq];exact this k hk
theorem cmd_any (s:ByteArray) (w:World):Calls Tryz.prog 8 #[.string s] w fun e w'=>e=.returned (.tuple #[.agg ((cmR s).1.map fun x=>Value.int .i64 x).toArray,.int .i64 (cmR s).2])∧Below w.heap.size w w':=by
 by_cases h100:100<s.size
 · have b2:(100:Int)<(s.size:Int):=by omega
   unfold cmR;rw[if_pos h100];go_enter Tryz.func8,Tryz.ntmps8;go_wp2;refine bodyPost_ret (Em.results_cell_tmp_row rfl _ _ w.heap.size 23 #[.int .i64 0,.int .i64 0,.int .i64 0,.int .i64 0] _ _ rfl (heap_alloc_new w _) Tryz.underlying23 rfl (by kernel_rfl)) rfl ⟨rfl,(Below.refl _ _).alloc (Nat.le_refl _) _⟩
 · have b2:¬ (100:Int)<(s.size:Int):=by omega
   have HR:Hid (cmR s=(cmOf (Tt.refCmd (bl s)),if (Tt.refCmd (bl s)).isSome then 0 else 3)):=by
    show _=_;unfold cmR;rw[if_neg h100]
   generalize hRR:cmR s=RR at*;have HW:=Lib.hid (words_any s (by omega));have HRW:=Lib.hid rows_any;clear hRR;go_enter Tryz.func8,Tryz.ntmps8;go_wp2_with (first|(go_at_call 17;refine (HW.out _).mono ?_;rintro e w2 ⟨v,ps,rfl,q1,q2,q3⟩;have hps:0<ps.length:=(by have h9:=congrArg List.length q2;have h8:=Tt.sp_ne 32 (bl s);rw[List.length_map] at h9;rw[h9];exact List.length_pos_iff.2 h8);obtain⟨gw,cap,rfl,hn1,hn2,hn3,hn4⟩:=own_pos q1 hps;have Q1:=Lib.hid q1;have Q2:=Lib.hid q2;have Q3:=Lib.hid q3;clear q1 q2 q3)|(go_at_call 18;refine (HRW.out _).mono ?_;rintro e w3 ⟨rfl,r1,r2,r3⟩;have R1:=Lib.hid r1;have R2:=Lib.hid r2;have R3:=Lib.hid r3;clear r1 r2 r3));obtain⟨p0,hp0⟩:∃ p0,ps[0]? =some p0:=⟨ps[0],List.getElem?_eq_getElem hps⟩
   have HN : Hid (∀ W, Below w3.heap.size w3 W → (∀ k, k < 16 → W.cell? ⟨w2.heap.size, k, none⟩ = some (.string (nmAt k)) ∧ W.cell? ⟨w2.heap.size + 1, k, none⟩ = some (.int .i64 (ndAt k : Int))) ∧ (∀ j p, ps[j]? = some p → W.cell? ⟨gw, j, none⟩ = some (.string p)) ∧
       W.heap[w.heap.size]? =some (.cells #[.int .i64 0,.int .i64 0,.int .i64 0,.int .i64 0] 23)∧Below w.heap.size w W):=by
    intro W hB;have s3:=R3.out.size;have s2:=Q3.out.size;rw[World.size_alloc] at s2;have l1:=(Array.getElem?_eq_some_iff.1 R1.out).1;have l2:=(Array.getElem?_eq_some_iff.1 R2.out).1;refine⟨fun k hk=>⟨nm_cell ((hB.block _ l1).trans R1.out) hk,nd_cell ((hB.block _ l2).trans R2.out) hk⟩,fun j p hj=>?_,?_,?_⟩
    · exact own_cell (Ow.own_below (Ow.own_below Q1.out R3.out) hB) (by rw[strs,List.getElem?_map,hj];rfl)
    · rw[hB.block _ (by omega),R3.out.block _ (by omega),Q3.out.block _ (by simp)];exact heap_alloc_new w _
    · exact (((Below.refl _ _).alloc (Nat.le_refl _) _).trans (Q3.out.mono (by simp))).trans ((R3.out.mono (by omega)).trans (hB.mono (by omega)))
   have HF:Hid (∀ k,k≤16→(∀ j,j<k→(Tt.cwL.getD j ([],0)).1≠bl p0)→(k=16→Tt.refCmd (bl s)=none)∧(k<16→(Tt.cwL.getD k ([],0)).1=bl p0→Tt.refCmd (bl s)=if ps.tail.length≠ndAt k then none else ((ps.tail.map bl).mapM Tt.n9).map fun l=>(k+1,l))):=by
    have hsp:Tt.sp 32 (bl s)=bl p0::ps.tail.map bl:=by
     rw[←Q2.out]
     cases ps with
     |nil=>cases hp0
     |cons x r=>obtain rfl:x=p0:=Option.some.inj hp0;rfl
    intro k hk hno;have hf:∀ (i:Nat) (hi:i<Tt.cwL.length),(Tt.cwL.getD i ([],0))=Tt.cwL[i]:=fun i hi=>by
     rw[List.getD_eq_getElem?_getD,List.getElem?_eq_getElem hi];rfl
    have hnd:∀ i,i<16→ndAt i=(Tt.cwL.getD i ([],0)).2:=by decide
    rw[refCmd_eq hsp];refine⟨fun e=>?_,fun h16 he=>?_⟩
    · subst e
      have:Tt.cwL.findIdx? (fun p=>decide (p.1=bl p0))=none:=by
       rw[List.findIdx?_eq_none_iff];intro p hp;obtain⟨j,hj,rfl⟩:=List.mem_iff_getElem.1 hp;have:=hno j hj;rw[hf j hj] at this
       simpa using this
      rw[this]
    · have:Tt.cwL.findIdx? (fun p=>decide (p.1=bl p0))=some k:=by
       rw[List.findIdx?_eq_some_iff_getElem];refine⟨h16,by rw[hf k h16] at he;simpa using he,fun j hj=>?_⟩;have:=hno j hj;rw[hf j (Nat.lt_trans hj h16)] at this
       simpa using this
      rw[this];simp only;rw[←hnd k h16,List.length_map]
   have hn16:ps.length≤101:=by
    have h9:=congrArg List.length Q2.out;rw[List.length_map] at h9;have:=sp_len 32 (bl s);have h8:(bl s).length=s.size:=size_list s;omega
   clear Q1 Q2 R1 R2
   go_loopw [7] (fun i wr=>∃ k:Nat,i=.int .i64 (k:Int)∧k≤16∧(∀ j,j<k→(Tt.cwL.getD j ([],0)).1≠bl p0)∧Below w3.heap.size w3 wr) (fun i _=>msr 16 i)
   case atStart=>exact⟨0,rfl,Nat.zero_le _,(fun j h=>by omega),Below.refl _ _⟩
   case round=>
    obtain⟨k,rfl,hk,hno,hB⟩:=hrel;obtain⟨f1,f2,f3,f4⟩:=HN.out wr hB;have F1:=Lib.hid f1;have F2:=Lib.hid f2;have F4:=Lib.hid f4;have HB:=Lib.hid hB
    by_cases hend:k=16
    · subst hend
      have HR2:=Lib.hid ((HF.out 16 (Nat.le_refl _) hno).1 rfl);clear f1 f2 f4 hB hno;go_wp2_with (refine wpList_store_row rfl 23 _ _ rfl w.heap.size #[.int .i64 0,.int .i64 0,.int .i64 0,.int .i64 0] rfl rfl 23 _ f3 (by kernel_rfl) rfl (by simp[Value.oneCell']) ?_);refine bodyPost_ret (Em.results_cell_tmp_row rfl _ _ w.heap.size 23 #[.int .i64 0,.int .i64 0,.int .i64 0,.int .i64 0] _ _ rfl (setRow_heap _ _ _ _ _ _ f3) Tryz.underlying23 rfl (by kernel_rfl)) rfl ⟨?_,below_setRow F4.out (Nat.le_refl _) _⟩;rw[HR.out,HR2.out];rfl
    · have hlt:k<16:=by omega
      have hkb:decide ((k:Int)<16)=true:=by rw[decide_eq_true_eq];omega
      have c1:=(f1 k hlt).1;have c2:=f2 0 p0 hp0;have c3:=(f1 k hlt).2;clear f1 f2 f4 hB
      by_cases heq:(nmAt k).toList=p0.toList
      · have b3:((nmAt k).toList==p0.toList)=true:=by rw[beq_iff_eq];exact heq
        have HE:=Lib.hid ((HF.out k hk hno).2 hlt (by rw[←nm_toList hlt,heq];exact ByteArray.toList_eq _));clear heq hno
        by_cases hln:ps.length=ndAt k+1
        · have hnd3:ndAt k≤3:=nd_le hlt
          have hln':((ps.length:Int) !=(ndAt k:Int)+1)=false:=by rw[bne_eq_false_iff_eq];omega
          have HLN:=Lib.hid hln;have HE2:Hid (Tt.refCmd (bl s)=((ps.tail.map bl).mapM Tt.n9).map fun l=>(k+1,l)):=by
           show _=_;rw[HE.out,if_neg (by rw[List.length_tail];omega)]
          clear HE hln;have hw1:=wrap64_id (x:=(ndAt k:Int)+1) (by omega) (by omega);go_wp2_with fail
          go_region
          go_wp2_with fail;have HB0:Hid (Below w3.heap.size w3 (wr.alloc (.cells #[.int .i64 0,.int .i64 0,.int .i64 0] 3)).drew∧(wr.alloc (.cells #[.int .i64 0,.int .i64 0,.int .i64 0] 3)).drew.heap[wr.heap.size]? =some (.cells #[.int .i64 0,.int .i64 0,.int .i64 0] 3)):=
           ⟨(HB.out.alloc HB.out.size _).drew,heap_alloc_new wr _⟩
          have HSZ:=Lib.hid HB.out.size;generalize (wr.alloc (.cells #[.int .i64 0,.int .i64 0,.int .i64 0] 3)).drew=wi at*;have hgN:Hid (w3.heap.size≤wr.heap.size):=HSZ.out;generalize hgn:wr.heap.size=gn at*;clear f3 F1 F2 F4 HB c1 c2 HSZ hgn hln' hw1
          go_loopw [9] (fun i wr=>∃ (q:Nat) (l:List Nat),i=.int .i64 (q:Int)∧q≤ndAt k∧((ps.tail.map bl).take q).mapM Tt.n9=some l∧l.length=q∧wr.heap[gn]? =some (.cells (padN l) 3)∧Below w3.heap.size w3 wr) (fun i _=>msr 3 i)
          case atStart=>exact⟨0,[],rfl,Nat.zero_le _,rfl,rfl,HB0.out.2,HB0.out.1⟩
          case round=>
           clear HB0 wi;obtain⟨q,l,rfl,hq,hm,hl,hN,hB⟩:=hrel;obtain⟨f1,f2,f3,f4⟩:=HN.out _ hB;have c3:=(f1 k hlt).2;have F4:=Lib.hid f4;have HB:=Lib.hid hB;have HM:=Lib.hid hm;clear hm hB f4
           by_cases hend:q=ndAt k
           · have hq3':q≤3:=by omega
             have c5:wr.cell? ⟨gn,0,none⟩=some (.int .i64 ((l.getD 0 0:Nat):Int)):=by rw[cell_of_row _ _ _ _ _ _ hN];rfl
             have c6:wr.cell? ⟨gn,1,none⟩=some (.int .i64 ((l.getD 1 0:Nat):Int)):=by rw[cell_of_row _ _ _ _ _ _ hN];rfl
             have c7:wr.cell? ⟨gn,2,none⟩=some (.int .i64 ((l.getD 2 0:Nat):Int)):=by rw[cell_of_row _ _ _ _ _ _ hN];rfl
             have HM2:Hid (Tt.refCmd (bl s)=some (k+1,l)):=by
              show _=_;rw[HE2.out];have hlt2:(ps.tail.map bl).length≤q:=by rw[List.length_map,List.length_tail];have:=HLN.out;omega
              have:=HM.out;rw[List.take_of_length_le hlt2] at this;rw[this];rfl
             rw[←hend] at c3;have f3d:wr.drew.heap[w.heap.size]? =some (.cells #[.int .i64 0,.int .i64 0,.int .i64 0,.int .i64 0] 23):=f3;clear f1 f2 hend;generalize hl0:((l.getD 0 0:Nat):Int)=l0 at*;generalize hl1:((l.getD 1 0:Nat):Int)=l1 at*;generalize hl2:((l.getD 2 0:Nat):Int)=l2 at*;have HLL:=Lib.hid (And.intro hl0 (And.intro hl1 hl2));clear hl0 hl1 hl2;go_wp2_with fail;have z0:wr.cell? ⟨w.heap.size,0,none⟩=some (.int .i64 0):=by rw[cell_of_row _ _ _ _ _ _ f3];rfl
             have y0:wr.frozen? ⟨w.heap.size,0,none⟩=false:=frozen_of_row _ _ _ _ _ f3;have z1:wr.cell? ⟨w.heap.size,1,none⟩=some (.int .i64 0):=by rw[cell_of_row _ _ _ _ _ _ f3];rfl
             have y1:wr.frozen? ⟨w.heap.size,1,none⟩=false:=frozen_of_row _ _ _ _ _ f3;have z2:wr.cell? ⟨w.heap.size,2,none⟩=some (.int .i64 0):=by rw[cell_of_row _ _ _ _ _ _ f3];rfl
             have y2:wr.frozen? ⟨w.heap.size,2,none⟩=false:=frozen_of_row _ _ _ _ _ f3;have z3:wr.cell? ⟨w.heap.size,3,none⟩=some (.int .i64 0):=by rw[cell_of_row _ _ _ _ _ _ f3];rfl
             have y3:wr.frozen? ⟨w.heap.size,3,none⟩=false:=frozen_of_row _ _ _ _ _ f3;have F3:=Lib.hid f3;clear f3d f3
             go_region
             go_wp2;have hfin:((((wr.setCell ⟨w.heap.size,0,none⟩ (.int .i64 ((k:Int)+1))).setCell ⟨w.heap.size,1,none⟩ (.int .i64 l0)).setCell ⟨w.heap.size,2,none⟩ (.int .i64 l1)).setCell ⟨w.heap.size,3,none⟩ (.int .i64 l2)).drew.heap[w.heap.size]? =some (.cells #[.int .i64 ((k:Int)+1),.int .i64 l0,.int .i64 l1,.int .i64 l2] 23):=by
              show ((((wr.setCell ⟨w.heap.size,0,none⟩ (.int .i64 ((k:Int)+1))).setCell ⟨w.heap.size,1,none⟩ (.int .i64 l0)).setCell ⟨w.heap.size,2,none⟩ (.int .i64 l1)).setCell ⟨w.heap.size,3,none⟩ (.int .i64 l2)).heap[w.heap.size]? =_;rw[heap_setCell_same _ _ _ _ _ _ (heap_setCell_same _ _ _ _ _ _ (heap_setCell_same _ _ _ _ _ _ (heap_setCell_same _ _ _ _ _ _ F3.out)))];rfl
             have hbel:Below w.heap.size w ((((wr.setCell ⟨w.heap.size,0,none⟩ (.int .i64 ((k:Int)+1))).setCell ⟨w.heap.size,1,none⟩ (.int .i64 l0)).setCell ⟨w.heap.size,2,none⟩ (.int .i64 l1)).setCell ⟨w.heap.size,3,none⟩ (.int .i64 l2)).drew:=
              ((((F4.out.setCell (p:=⟨w.heap.size,0,none⟩) (Nat.le_refl _) _).setCell (p:=⟨w.heap.size,1,none⟩) (Nat.le_refl _) _).setCell (p:=⟨w.heap.size,2,none⟩) (Nat.le_refl _) _).setCell (p:=⟨w.heap.size,3,none⟩) (Nat.le_refl _) _).drew
             refine bodyPost_ret (Em.results_cell_tmp_row rfl _ _ w.heap.size 23 #[.int .i64 ((k:Int)+1),.int .i64 l0,.int .i64 l1,.int .i64 l2] _ _ rfl hfin Tryz.underlying23 rfl (by kernel_rfl)) rfl ⟨?_,hbel⟩;rw[HR.out,HM2.out,←HLL.out.1,←HLL.out.2.1,←HLL.out.2.2];rfl
           · have hlq:q<ndAt k:=by omega
             obtain⟨pq,hpq⟩:∃ pq,ps[q+1]? =some pq:=⟨ps[q+1]'(by have:=HLN.out;omega),List.getElem?_eq_getElem _⟩
             have c4:=f2 (q+1) pq hpq;have HPQ:=Lib.hid hpq;have hq1:(q:Int)+1<(ps.length:Int):=by have:=HLN.out;omega
             have hq0:(0:Int)≤(q:Int)+1:=by omega
             have hnu:=num_any pq;have HT:Hid ((ps.tail.map bl).take (q+1)=(ps.tail.map bl).take q++[bl pq]):=by
              show _=_;rw[List.take_add_one,List.getElem?_map,List.getElem?_tail,HPQ.out];rfl
             clear f1 f2 hpq
             cases hx:Tt.n9 pq.data.toList with
             |none=>
              rw[hx] at hnu;have HNU:=Lib.hid hnu;have HM2:Hid (Tt.refCmd (bl s)=none):=by
               show _=_;rw[HE2.out,mapM_none (k:=q+1) (by rw[HT.out,List.mapM_append,HM.out];show (do let b ←[bl pq].mapM Tt.n9;pure (l++b))=none;rw[List.mapM_cons,show Tt.n9 (bl pq)=none from hx];rfl)];rfl
              clear hnu hx;have hq3':q<3:=by omega
              go_wp2_with (first|(go_at_call 19;refine (HNU.out _).mono ?_;rintro e w5 ⟨rfl,rfl⟩)|(refine wpList_store_row rfl 23 _ _ rfl w.heap.size #[.int .i64 0,.int .i64 0,.int .i64 0,.int .i64 0] rfl rfl 23 _ f3 (by kernel_rfl) rfl (by simp[Value.oneCell']) ?_));refine bodyPost_ret (Em.results_cell_tmp_row rfl _ _ w.heap.size 23 #[.int .i64 0,.int .i64 0,.int .i64 0,.int .i64 0] _ _ rfl (setRow_heap _ _ _ _ _ _ f3) Tryz.underlying23 rfl (by kernel_rfl)) rfl ⟨?_,below_setRow F4.out (Nat.le_refl _) _⟩;rw[HR.out,HM2.out];rfl
             |some x=>
              rw[hx] at hnu;have HNU:=Lib.hid hnu;have HX:=Lib.hid hx;have c5:wr.cell? ⟨gn,q,none⟩=some (.int .i64 ((l.getD q 0:Nat):Int)):=by
               rw[cell_of_row _ _ _ _ _ _ hN];exact padN_get (by omega)
              have c6:wr.frozen? ⟨gn,q,none⟩=false:=frozen_of_row _ _ _ _ _ hN;have hq3:(q:Int)<3:=by omega
              clear hnu hx;have hq3':q<3:=by omega
              go_wp2_with (first|(go_at_call 19;refine (HNU.out _).mono ?_;rintro e w5 ⟨rfl,rfl⟩));generalize hws:wr.setCell ⟨gn,q,none⟩ (.int .i64 (x:Int))=ws at*;refine⟨⟨q+1,l++[x],rfl,by omega,?r1,by simp[hl],?r2,?r3⟩,?r4⟩
              case r1=>rw[HT.out,List.mapM_append,HM.out];show (do let b ←[bl pq].mapM Tt.n9;pure (l++b))=_;rw[List.mapM_cons,show Tt.n9 (bl pq)=some x from HX.out];rfl
              case r2=>rw[←hws,heap_setCell_same _ _ _ _ _ _ hN,padN_set hq3' hl]
              case r3=>rw[←hws];exact HB.out.setCell (p:=⟨gn,q,none⟩) hgN.out _
              case r4=>show 3 - ((q:Int)+1).toNat<3 - (q:Int).toNat;omega
        · have hnd3:ndAt k≤3:=nd_le hlt
          have hln':((ps.length:Int) !=(ndAt k:Int)+1)=true:=by rw[bne_iff_ne];omega
          have HE2:Hid (Tt.refCmd (bl s)=none):=by
           show _=_;rw[HE.out,if_pos (by rw[List.length_tail];omega)]
          have f3d:wr.drew.heap[w.heap.size]? =some (.cells #[.int .i64 0,.int .i64 0,.int .i64 0,.int .i64 0] 23):=f3;clear HE hln;have hw1:=wrap64_id (x:=(ndAt k:Int)+1) (by omega) (by omega);go_wp2_with fail
          go_region
          go_wp2_with (refine wpList_store_row rfl 23 _ _ rfl w.heap.size #[.int .i64 0,.int .i64 0,.int .i64 0,.int .i64 0] rfl rfl 23 _ f3d (by kernel_rfl) rfl (by simp[Value.oneCell']) ?_);refine bodyPost_ret (Em.results_cell_tmp_row rfl _ _ w.heap.size 23 #[.int .i64 0,.int .i64 0,.int .i64 0,.int .i64 0] _ _ rfl (setRow_heap _ _ _ _ _ _ f3d) Tryz.underlying23 rfl (by kernel_rfl)) rfl ⟨?_,below_setRow F4.out.drew (Nat.le_refl _) _⟩;rw[HR.out,HE2.out];rfl
      · have b3:((nmAt k).toList==p0.toList)=false:=by rw[beq_eq_false_iff_ne];exact heq
        go_wp2_with fail
        go_region
        go_wp2;have hw:=wrap64_id (x:=(k:Int)+1) (by omega) (by omega)
        try rw[hw]
        refine⟨⟨k+1,rfl,by omega,fun j hj=>?_,HB.out.trans ⟨rfl,rfl,rfl,Nat.le_refl _,fun _ _=>rfl⟩⟩,by show 16 - ((k:Int)+1).toNat<16 - (k:Int).toNat;omega⟩
        by_cases e:j=k
        · subst e;intro e2;apply heq;rw[nm_toList hlt,e2];exact (ByteArray.toList_eq _).symm
        · exact hno j (by omega)
end Go.Proofs.YtiimlopcifljeaaGreatDoor.Cn
/- The program's readers of numbers,over strconv's Atoi and Itoa:plain. -/
namespace Go.Proofs.YtiimlopcifljeaaGreatDoor.Tt
open Go
theorem dec_dg (n:Nat):Lib.decDigits n=dg n:=by
 induction n using Nat.strongRecOn with
 |_ n ih=>
  rw[Lib.decDigits,dg]
  split
  · rfl
  · rw[ih (n / 10) (by omega)]
theorem itoa_dg (n:Nat):Lib.itoa (n:Int)=dg n:=by
 unfold Lib.itoa
 rw[if_neg (by omega),Int.toNat_natCast,dec_dg]
theorem parse_all:∀ (l:Bs) (acc k:Nat),l.all isD=true→acc<10 ^ k→k+l.length≤18→Lib.parseUint10 acc l=.ok (l.foldl (fun n c=>10*n+(c.toNat - 48)) acc)
 |[],acc,k,_,_,_=>rfl
 |c::r,acc,k,h,ha,hk=>by
  rw[List.all_cons,Bool.and_eq_true] at h
  have hc:=h.1
  unfold isD at hc
  simp at hc
  have hk1:k+1≤18:=by simp at hk;omega
  have hp:10 ^ k≤10 ^ 17:=Nat.pow_le_pow_right (by omega) (by omega)
  have hb:acc*10+(c.toNat - 48)<10 ^ (k+1):=by rw[Nat.pow_succ];omega
  have h17:(10:Nat) ^ 17=100000000000000000:=rfl
  rw[Lib.parseUint10,if_pos ⟨hc.1,hc.2⟩,if_neg (by omega),if_neg (by omega),parse_all r _ (k+1) h.2 hb (by simp at hk;omega),Nat.mul_comm acc 10]
  rfl
theorem atoi_dg {n:Nat} (h:(dg n).length≤18):Lib.atoiAll (dg n)=.ok (n:Int):=by
 have ha:=dg_all n
 have hv:=dg_val n
 cases e:dg n with
 |nil=>exact absurd e (dg_ne n)
 |cons c r=>
  rw[e] at ha hv h
  have hc:isD c=true:=by rw[List.all_cons,Bool.and_eq_true] at ha;exact ha.1
  unfold isD at hc
  simp at hc
  have hp:Lib.parseMag (c::r)=.ok n:=by
   unfold Lib.parseMag
   rw[if_neg (by simp),parse_all (c::r) 0 0 ha (by decide) (by omega)]
   show Lib.NumEnd.ok (val (c::r))=_
   rw[hv]
  have hn:n<10 ^ 18:=by
   have:∀ (l:Bs) (acc k:Nat),l.all isD=true→acc<10 ^ k→l.foldl (fun n c=>10*n+(c.toNat - 48)) acc<10 ^ (k+l.length):=by
    intro l
    induction l with
    |nil=>intro acc k _ h;exact h
    |cons x t ih=>
     intro acc k hl h
     rw[List.all_cons,Bool.and_eq_true] at hl
     have hx:=hl.1
     unfold isD at hx
     simp at hx
     have:=ih (10*acc+(x.toNat - 48)) (k+1) hl.2 (by rw[Nat.pow_succ];omega)
     rw[List.length_cons,show k+(t.length+1)=k+1+t.length by omega]
     exact this
   have h2:=this (c::r) 0 0 ha (by decide)
   have h3:(c::r).foldl (fun n c=>10*n+(c.toNat - 48)) 0=n:=hv
   rw[h3] at h2
   exact Nat.lt_of_lt_of_le h2 (Nat.pow_le_pow_right (by omega) (by omega))
  have h18:(10:Nat) ^ 18=1000000000000000000:=rfl
  unfold Lib.atoiAll
  simp only
  rw[if_neg (by omega:¬ (c.toNat=43∨c.toNat=45)),hp]
  simp only
  rw[if_neg (by omega),if_neg (by omega),if_neg (by omega)]
def pnC (s:Bs):Option Nat:=match Lib.atoiAll s with
 |.ok v=>if v<0∨9<s.length∨Lib.itoa v≠s then none else some v.toNat
 |_=>none
theorem pnC_p9:P9 pnC where
 ok n h:=by
  unfold pnC
  rw[atoi_dg (by omega)]
  simp only
  rw[if_neg (by rw[itoa_dg];rintro (e|e|e);omega;omega;exact e rfl),Int.toNat_natCast]
 is s n h:=by
  unfold pnC at h
  split at h
  · rename_i v hv
    split at h
    · cases h
    · rename_i h2
      obtain rfl:=Option.some.inj h
      have h3:¬ v<0:=fun e=>h2 (.inl e)
      have h4:¬ 9<s.length:=fun e=>h2 (.inr (.inl e))
      have h5:Lib.itoa v=s:=Classical.byContradiction fun e=>h2 (.inr (.inr e))
      refine⟨?_,by omega⟩
      rw[←h5,←itoa_dg,Int.toNat_of_nonneg (by omega)]
  · cases h
end Go.Proofs.YtiimlopcifljeaaGreatDoor.Tt
/- The library's Split at one sign:the parts between it. -/
namespace Go.Proofs.YtiimlopcifljeaaGreatDoor.Tt
open Go
theorem idx_app {c:UInt8} {a:Bs} (t:Bs) (h:c ∉ a):Lib.index (a++c::t) [c]=(a.length:Int):=by
 refine Lib.index_first (by simp) (by simp[Lib.occAt]) (fun j hj=>?_)
 have hd:(a++c::t).drop j=a[j]::(a.drop (j+1)++c::t):=by
  rw[List.drop_append_of_le_length (by omega),List.drop_eq_getElem_cons hj];rfl
 unfold Lib.occAt
 rw[hd]
 simp only[List.isPrefixOf,Bool.and_true,beq_eq_false_iff_ne]
 exact fun e=>h (by rw[e];exact List.getElem_mem hj)
theorem idx_no {c:UInt8} {a:Bs} (h:c ∉ a):Lib.index a [c]=-1:=by
 refine Lib.index_none (fun j hj=>?_)
 unfold Lib.occAt
 cases e:a.drop j with
 |nil=>rfl
 |cons x r=>
  simp only[List.isPrefixOf,Bool.and_true,beq_eq_false_iff_ne]
  intro e2
  exact h (by rw[e2];exact List.mem_of_mem_drop (by rw[e];exact List.mem_cons_self))
theorem split_sp (c:UInt8):∀ (k:Nat) (s:Bs),s.length≤k→Lib.splitK [c] 0 (Lib.count s [c]) s=sp c s
 |k,s,hk=>by
  by_cases h:c∈s
  · obtain⟨a,t,rfl,ha⟩:=List.eq_append_cons_of_mem h
    have hi:=idx_app t ha
    cases k with
    |zero=>simp at hk
    |succ k=>
     have hd:(a++c::t).drop (a.length+1)=t:=by
      rw[←List.drop_drop,List.drop_left];rfl
     rw[Lib.count_hit (by simp) hi,sp_app t ha,Nat.add_comm 1]
     unfold Lib.splitK
     rw[hi,if_neg (by simp)]
     simp only[Int.toNat_natCast,Nat.add_zero,List.length_singleton,List.take_left]
     rw[hd,split_sp c k t (by simp at hk;omega)]
  · rw[Lib.count_miss (idx_no h),sp_one h];rfl
end Go.Proofs.YtiimlopcifljeaaGreatDoor.Tt
namespace Go.Proofs
open Go.Shelf
set_option linter.unusedVariables false
set_option linter.unusedSimpArgs false
set_option maxRecDepth 100000
set_option maxHeartbeats 1600000
def Tryz.lays169_ren:Go.Shelf.Ren:=⟨fun|169=>25|n=>n,fun|70=>75|9=>9|0=>0|72=>77|37=>42|127=>105|3=>3|5=>5|n=>n,fun|n=>n⟩
theorem Tryz.lays169:Go.Proofs.Lays.n169 Tryz.prog Tryz.lays169_ren:={
 mixed:=by kernel_rfl
 f169:=Tryz.func25.trans (congrArg some (by kernel_rfl))
 t0:=Tryz.underlying0
 a0:=Tryz.isAgg0
 z0:=Tryz.sizeOf0
 v0:=Tryz.zeroValue0
 t3:=Tryz.underlying3
 a3:=Tryz.isAgg3
 z3:=Tryz.sizeOf3
 v3:=Tryz.zeroValue3
 t9:=Tryz.underlying9
 a9:=Tryz.isAgg9
 z9:=Tryz.sizeOf9
 v9:=Tryz.zeroValue9
 t37:=Tryz.underlying42
 a37:=Tryz.isAgg42
 z37:=Tryz.sizeOf42
 v37:=Tryz.zeroValue42
 t70:=Tryz.underlying75
 a70:=Tryz.isAgg75
 z70:=Tryz.sizeOf75
 v70:=Tryz.zeroValue75
 t72:=Tryz.underlying77
 a72:=Tryz.isAgg77
 z72:=Tryz.sizeOf77
 v72:=Tryz.zeroValue77
 t127:=Tryz.underlying105
 a127:=Tryz.isAgg105
 z127:=Tryz.sizeOf105
 v127:=Tryz.zeroValue105}
theorem Tryz.Builder_Extra_169:Builder.Extra Tryz.prog Tryz.lays169_ren:={
 sizeBuilder:=by kernel_rfl
 liesBuilder:=by kernel_rfl
 t5:=Tryz.underlying5
 a5:=Tryz.isAgg5
 z5:=Tryz.sizeOf5
 v5:=Tryz.zeroValue5
 infoByte:=by kernel_rfl
 cellsByte:=by kernel_rfl
 sizeByte:=by kernel_rfl
 neB5:=by decide}
def Tryz.lays156_ren:Go.Shelf.Ren:=⟨fun|156=>32|165=>60|166=>23|169=>25|240=>34|241=>106|276=>63|277=>146|n=>n,fun|31=>27|9=>9|3=>3|4=>4|0=>0|20=>20|72=>77|76=>49|70=>75|37=>42|75=>48|127=>105|164=>136|5=>5|80=>82|n=>n,fun|n=>n⟩
theorem Tryz.lays156:Go.Proofs.Lays.n156 Tryz.prog Tryz.lays156_ren:={
 mixed:=by kernel_rfl
 f156:=Tryz.func32.trans (congrArg some (by kernel_rfl))
 f165:=Tryz.func60.trans (congrArg some (by kernel_rfl))
 f166:=Tryz.func23.trans (congrArg some (by kernel_rfl))
 f169:=Tryz.func25.trans (congrArg some (by kernel_rfl))
 f240:=Tryz.func34.trans (congrArg some (by kernel_rfl))
 f241:=Tryz.func106.trans (congrArg some (by kernel_rfl))
 f276:=Tryz.func63.trans (congrArg some (by kernel_rfl))
 f277:=Tryz.func146.trans (congrArg some (by kernel_rfl))
 t0:=Tryz.underlying0
 a0:=Tryz.isAgg0
 z0:=Tryz.sizeOf0
 v0:=Tryz.zeroValue0
 t3:=Tryz.underlying3
 a3:=Tryz.isAgg3
 z3:=Tryz.sizeOf3
 v3:=Tryz.zeroValue3
 t4:=Tryz.underlying4
 a4:=Tryz.isAgg4
 z4:=Tryz.sizeOf4
 v4:=Tryz.zeroValue4
 t9:=Tryz.underlying9
 a9:=Tryz.isAgg9
 z9:=Tryz.sizeOf9
 v9:=Tryz.zeroValue9
 t20:=Tryz.underlying20
 a20:=Tryz.isAgg20
 z20:=Tryz.sizeOf20
 v20:=Tryz.zeroValue20
 t31:=Tryz.underlying27
 a31:=Tryz.isAgg27
 z31:=Tryz.sizeOf27
 v31:=Tryz.zeroValue27
 t37:=Tryz.underlying42
 a37:=Tryz.isAgg42
 z37:=Tryz.sizeOf42
 v37:=Tryz.zeroValue42
 t70:=Tryz.underlying75
 a70:=Tryz.isAgg75
 z70:=Tryz.sizeOf75
 v70:=Tryz.zeroValue75
 t72:=Tryz.underlying77
 a72:=Tryz.isAgg77
 z72:=Tryz.sizeOf77
 v72:=Tryz.zeroValue77
 t75:=Tryz.underlying48
 a75:=Tryz.isAgg48
 z75:=Tryz.sizeOf48
 v75:=Tryz.zeroValue48
 t76:=Tryz.underlying49
 a76:=Tryz.isAgg49
 z76:=Tryz.sizeOf49
 v76:=Tryz.zeroValue49
 t127:=Tryz.underlying105
 a127:=Tryz.isAgg105
 z127:=Tryz.sizeOf105
 v127:=Tryz.zeroValue105
 t164:=Tryz.underlying136
 a164:=Tryz.isAgg136
 z164:=Tryz.sizeOf136
 v164:=Tryz.zeroValue136}
theorem Tryz.Builder_Extra_156:Builder.Extra Tryz.prog Tryz.lays156_ren:={
 sizeBuilder:=by kernel_rfl
 liesBuilder:=by kernel_rfl
 t5:=Tryz.underlying5
 a5:=Tryz.isAgg5
 z5:=Tryz.sizeOf5
 v5:=Tryz.zeroValue5
 infoByte:=by kernel_rfl
 cellsByte:=by kernel_rfl
 sizeByte:=by kernel_rfl
 neB5:=by decide}
open Go.RowKit in
theorem Tryz.strings_Join (bk o c:Nat) (xs:List ByteArray) (sep:ByteArray) (w:World) (hcells:∀ (j:Nat) x,xs[j]? =some x→w.cell? ⟨bk,o+j,none⟩=some (.string x)) (hbk:bk<w.heap.size) (hN:xs.length≤140737488355328) (hcap:xs.length≤c) (hlen:(Lib.join (xs.map (·.data.toList)) sep.data.toList).length≤140737488355328):
 Calls Tryz.prog 32 #[.slice (some ⟨bk,o,none⟩) xs.length c,.string sep] w fun e w'=>e=.returned (.string ⟨(Lib.join (xs.map (·.data.toList)) sep.data.toList).toArray⟩)∧Below w.heap.size w w':=Any.strings_Join Tryz.lays156 Tryz.Builder_Extra_156 bk o c xs sep w hcells hbk hN hcap hlen
def Tryz.laysM171_ren:Go.Shelf.Ren:=⟨fun|171=>15|243=>29|246=>56|283=>102|284=>103|285=>104|286=>105|129=>142|317=>141|318=>143|319=>144|320=>145|337=>174|338=>175|n=>n,fun|3=>3|9=>9|2=>2|4=>4|171=>208|0=>0|53=>33|37=>42|5=>5|173=>211|212=>267|51=>148|20=>20|213=>268|46=>204|232=>336|233=>337|n=>n,fun|17=>3|18=>6|19=>7|n=>n⟩
theorem Tryz.laysM171:Go.Proofs.LaysM.n171 Tryz.prog Tryz.laysM171_ren:={
 mixed:=by kernel_rfl
 f129:=Tryz.func142.trans (congrArg some (by kernel_rfl))
 f171:=Tryz.func15.trans (congrArg some (by kernel_rfl))
 f243:=Tryz.func29.trans (congrArg some (by kernel_rfl))
 f246:=Tryz.func56.trans (congrArg some (by kernel_rfl))
 f283:=Tryz.func102.trans (congrArg some (by kernel_rfl))
 f284:=Tryz.func103.trans (congrArg some (by kernel_rfl))
 f285:=Tryz.func104.trans (congrArg some (by kernel_rfl))
 f286:=Tryz.func105.trans (congrArg some (by kernel_rfl))
 f317:=Tryz.func141.trans (congrArg some (by kernel_rfl))
 f318:=Tryz.func143.trans (congrArg some (by kernel_rfl))
 f319:=Tryz.func144.trans (congrArg some (by kernel_rfl))
 f320:=Tryz.func145.trans (congrArg some (by kernel_rfl))
 f337:=Tryz.func174.trans (congrArg some (by kernel_rfl))
 f338:=Tryz.func175.trans (congrArg some (by kernel_rfl))
 t0:=Tryz.underlying0
 a0:=Tryz.isAgg0
 z0:=Tryz.sizeOf0
 v0:=Tryz.zeroValue0
 t2:=Tryz.underlying2
 a2:=Tryz.isAgg2
 z2:=Tryz.sizeOf2
 v2:=Tryz.zeroValue2
 t3:=Tryz.underlying3
 a3:=Tryz.isAgg3
 z3:=Tryz.sizeOf3
 v3:=Tryz.zeroValue3
 t4:=Tryz.underlying4
 a4:=Tryz.isAgg4
 z4:=Tryz.sizeOf4
 v4:=Tryz.zeroValue4
 t5:=Tryz.underlying5
 a5:=Tryz.isAgg5
 z5:=Tryz.sizeOf5
 v5:=Tryz.zeroValue5
 t9:=Tryz.underlying9
 a9:=Tryz.isAgg9
 z9:=Tryz.sizeOf9
 v9:=Tryz.zeroValue9
 t20:=Tryz.underlying20
 a20:=Tryz.isAgg20
 z20:=Tryz.sizeOf20
 v20:=Tryz.zeroValue20
 t37:=Tryz.underlying42
 a37:=Tryz.isAgg42
 z37:=Tryz.sizeOf42
 v37:=Tryz.zeroValue42
 t46:=Tryz.underlying204
 a46:=Tryz.isAgg204
 z46:=Tryz.sizeOf204
 v46:=Tryz.zeroValue204
 t51:=Tryz.underlying148
 a51:=Tryz.isAgg148
 z51:=Tryz.sizeOf148
 v51:=Tryz.zeroValue148
 t53:=Tryz.underlying33
 a53:=Tryz.isAgg33
 z53:=Tryz.sizeOf33
 v53:=Tryz.zeroValue33
 t171:=Tryz.underlying208
 a171:=Tryz.isAgg208
 z171:=Tryz.sizeOf208
 v171:=Tryz.zeroValue208
 t173:=Tryz.underlying211
 a173:=Tryz.isAgg211
 z173:=Tryz.sizeOf211
 v173:=Tryz.zeroValue211
 t212:=Tryz.underlying267
 a212:=Tryz.isAgg267
 z212:=Tryz.sizeOf267
 v212:=Tryz.zeroValue267
 t213:=Tryz.underlying268
 a213:=Tryz.isAgg268
 z213:=Tryz.sizeOf268
 t232:=Tryz.underlying336
 a232:=Tryz.isAgg336
 z232:=Tryz.sizeOf336
 v232:=Tryz.zeroValue336
 t233:=Tryz.underlying337
 a233:=Tryz.isAgg337
 z233:=Tryz.sizeOf337
 v233:=Tryz.zeroValue337
 g17:=by kernel_rfl
 g18:=by kernel_rfl
 g19:=by kernel_rfl
 i0:=by kernel_rfl
 i2:=by kernel_rfl
 i3:=by kernel_rfl
 i4:=by kernel_rfl
 i5:=by kernel_rfl
 i9:=by kernel_rfl
 i20:=by kernel_rfl
 i37:=by kernel_rfl
 i46:=by kernel_rfl
 i51:=by kernel_rfl
 i53:=by kernel_rfl
 i171:=by kernel_rfl
 i173:=by kernel_rfl
 i212:=by kernel_rfl
 i232:=by kernel_rfl
 i233:=by kernel_rfl
 m17:=by kernel_rfl
 m18:=by kernel_rfl
 m19:=by kernel_rfl}
open Go.RowKit Go.Sort Go.Lib in
theorem Tryz.strconv_Itoa (n : Int) (h0 : -9223372036854775808 ≤ n) (h1 : n ≤ 9223372036854775807) (w : World) (htab : Lib.TabIs Tryz.prog w "internal/strconv.uint64pow10" .u64 Lib.pow10Tab) :
 Calls Tryz.prog 15 #[.int .i64 n] w fun e w'=>e=.returned (.string ⟨(Lib.itoa n).toArray⟩)∧∃ k os,w'=grow (w.drewN k) os:=Any.strconv_Itoa Tryz.laysM171 n h0 h1 w htab
def Tryz.lays171_ren:Go.Shelf.Ren:=⟨fun|171=>15|243=>29|246=>56|283=>102|284=>103|285=>104|286=>105|129=>142|317=>141|318=>143|319=>144|320=>145|337=>174|338=>175|n=>n,fun|3=>3|9=>9|2=>2|4=>4|171=>208|0=>0|53=>33|37=>42|5=>5|173=>211|212=>267|51=>148|20=>20|213=>268|46=>204|232=>336|233=>337|n=>n,fun|17=>3|18=>6|19=>7|n=>n⟩
theorem Tryz.lays171:Go.Proofs.Lays.n171 Tryz.prog Tryz.lays171_ren:={
 mixed:=by kernel_rfl
 f129:=Tryz.func142.trans (congrArg some (by kernel_rfl))
 f171:=Tryz.func15.trans (congrArg some (by kernel_rfl))
 f243:=Tryz.func29.trans (congrArg some (by kernel_rfl))
 f246:=Tryz.func56.trans (congrArg some (by kernel_rfl))
 f283:=Tryz.func102.trans (congrArg some (by kernel_rfl))
 f284:=Tryz.func103.trans (congrArg some (by kernel_rfl))
 f285:=Tryz.func104.trans (congrArg some (by kernel_rfl))
 f286:=Tryz.func105.trans (congrArg some (by kernel_rfl))
 f317:=Tryz.func141.trans (congrArg some (by kernel_rfl))
 f318:=Tryz.func143.trans (congrArg some (by kernel_rfl))
 f319:=Tryz.func144.trans (congrArg some (by kernel_rfl))
 f320:=Tryz.func145.trans (congrArg some (by kernel_rfl))
 f337:=Tryz.func174.trans (congrArg some (by kernel_rfl))
 f338:=Tryz.func175.trans (congrArg some (by kernel_rfl))
 t0:=Tryz.underlying0
 a0:=Tryz.isAgg0
 z0:=Tryz.sizeOf0
 v0:=Tryz.zeroValue0
 t2:=Tryz.underlying2
 a2:=Tryz.isAgg2
 z2:=Tryz.sizeOf2
 v2:=Tryz.zeroValue2
 t3:=Tryz.underlying3
 a3:=Tryz.isAgg3
 z3:=Tryz.sizeOf3
 v3:=Tryz.zeroValue3
 t4:=Tryz.underlying4
 a4:=Tryz.isAgg4
 z4:=Tryz.sizeOf4
 v4:=Tryz.zeroValue4
 t5:=Tryz.underlying5
 a5:=Tryz.isAgg5
 z5:=Tryz.sizeOf5
 v5:=Tryz.zeroValue5
 t9:=Tryz.underlying9
 a9:=Tryz.isAgg9
 z9:=Tryz.sizeOf9
 v9:=Tryz.zeroValue9
 t20:=Tryz.underlying20
 a20:=Tryz.isAgg20
 z20:=Tryz.sizeOf20
 v20:=Tryz.zeroValue20
 t37:=Tryz.underlying42
 a37:=Tryz.isAgg42
 z37:=Tryz.sizeOf42
 v37:=Tryz.zeroValue42
 t46:=Tryz.underlying204
 a46:=Tryz.isAgg204
 z46:=Tryz.sizeOf204
 v46:=Tryz.zeroValue204
 t51:=Tryz.underlying148
 a51:=Tryz.isAgg148
 z51:=Tryz.sizeOf148
 v51:=Tryz.zeroValue148
 t53:=Tryz.underlying33
 a53:=Tryz.isAgg33
 z53:=Tryz.sizeOf33
 v53:=Tryz.zeroValue33
 t171:=Tryz.underlying208
 a171:=Tryz.isAgg208
 z171:=Tryz.sizeOf208
 v171:=Tryz.zeroValue208
 t173:=Tryz.underlying211
 a173:=Tryz.isAgg211
 z173:=Tryz.sizeOf211
 v173:=Tryz.zeroValue211
 t212:=Tryz.underlying267
 a212:=Tryz.isAgg267
 z212:=Tryz.sizeOf267
 v212:=Tryz.zeroValue267
 t213:=Tryz.underlying268
 a213:=Tryz.isAgg268
 z213:=Tryz.sizeOf268
 t232:=Tryz.underlying336
 a232:=Tryz.isAgg336
 z232:=Tryz.sizeOf336
 v232:=Tryz.zeroValue336
 t233:=Tryz.underlying337
 a233:=Tryz.isAgg337
 z233:=Tryz.sizeOf337
 v233:=Tryz.zeroValue337
 g17:=by kernel_rfl
 g18:=by kernel_rfl
 g19:=by kernel_rfl}
open Go.RowKit Go.Sort Go.Lib in
theorem Tryz.strconv_Itoa_small (i:Nat) (hi:i<100) (w:World):
 Calls Tryz.prog 15 #[.int .i64 i] w fun e w'=>e=.returned (.string ⟨(Lib.decDigits i).toArray⟩)∧w'=w:=Any.strconv_Itoa_small Tryz.lays171 i hi w
def Tryz.laysC172_ren:Go.Shelf.Ren:=⟨fun|172=>14|244=>27|245=>28|247=>51|279=>52|280=>53|281=>54|282=>55|287=>99|316=>100|171=>15|205=>101|321=>139|322=>140|243=>29|246=>56|283=>102|284=>103|285=>104|286=>105|129=>142|317=>141|318=>143|319=>144|320=>145|337=>174|338=>175|n=>n,fun|9=>9|3=>3|75=>48|76=>49|4=>4|5=>5|167=>108|37=>42|0=>0|85=>109|2=>2|168=>111|53=>33|175=>202|46=>204|210=>206|127=>105|145=>265|143=>263|21=>21|171=>208|173=>211|212=>267|51=>148|20=>20|213=>268|232=>336|233=>337|80=>82|n=>n,fun|15=>0|16=>1|17=>3|18=>6|19=>7|n=>n⟩
theorem Tryz.laysC172:Go.Proofs.LaysC.n172 Tryz.prog Tryz.laysC172_ren:={
 mixed:=by kernel_rfl
 f129:=Tryz.func142.trans (congrArg some (by kernel_rfl))
 f171:=Tryz.func15.trans (congrArg some (by kernel_rfl))
 f172:=Tryz.func14.trans (congrArg some (by kernel_rfl))
 f205:=Tryz.func101.trans (congrArg some (by kernel_rfl))
 f243:=Tryz.func29.trans (congrArg some (by kernel_rfl))
 f244:=Tryz.func27.trans (congrArg some (by kernel_rfl))
 f245:=Tryz.func28.trans (congrArg some (by kernel_rfl))
 f246:=Tryz.func56.trans (congrArg some (by kernel_rfl))
 f247:=Tryz.func51.trans (congrArg some (by kernel_rfl))
 f279:=Tryz.func52.trans (congrArg some (by kernel_rfl))
 f280:=Tryz.func53.trans (congrArg some (by kernel_rfl))
 f281:=Tryz.func54.trans (congrArg some (by kernel_rfl))
 f282:=Tryz.func55.trans (congrArg some (by kernel_rfl))
 f283:=Tryz.func102.trans (congrArg some (by kernel_rfl))
 f284:=Tryz.func103.trans (congrArg some (by kernel_rfl))
 f285:=Tryz.func104.trans (congrArg some (by kernel_rfl))
 f286:=Tryz.func105.trans (congrArg some (by kernel_rfl))
 f287:=Tryz.func99.trans (congrArg some (by kernel_rfl))
 f316:=Tryz.func100.trans (congrArg some (by kernel_rfl))
 f317:=Tryz.func141.trans (congrArg some (by kernel_rfl))
 f318:=Tryz.func143.trans (congrArg some (by kernel_rfl))
 f319:=Tryz.func144.trans (congrArg some (by kernel_rfl))
 f320:=Tryz.func145.trans (congrArg some (by kernel_rfl))
 f321:=Tryz.func139.trans (congrArg some (by kernel_rfl))
 f322:=Tryz.func140.trans (congrArg some (by kernel_rfl))
 f337:=Tryz.func174.trans (congrArg some (by kernel_rfl))
 f338:=Tryz.func175.trans (congrArg some (by kernel_rfl))
 t0:=Tryz.underlying0
 a0:=Tryz.isAgg0
 z0:=Tryz.sizeOf0
 v0:=Tryz.zeroValue0
 t2:=Tryz.underlying2
 a2:=Tryz.isAgg2
 z2:=Tryz.sizeOf2
 v2:=Tryz.zeroValue2
 t3:=Tryz.underlying3
 a3:=Tryz.isAgg3
 z3:=Tryz.sizeOf3
 v3:=Tryz.zeroValue3
 t4:=Tryz.underlying4
 a4:=Tryz.isAgg4
 z4:=Tryz.sizeOf4
 v4:=Tryz.zeroValue4
 t5:=Tryz.underlying5
 a5:=Tryz.isAgg5
 z5:=Tryz.sizeOf5
 v5:=Tryz.zeroValue5
 t9:=Tryz.underlying9
 a9:=Tryz.isAgg9
 z9:=Tryz.sizeOf9
 v9:=Tryz.zeroValue9
 t20:=Tryz.underlying20
 a20:=Tryz.isAgg20
 z20:=Tryz.sizeOf20
 v20:=Tryz.zeroValue20
 t21:=Tryz.underlying21
 a21:=Tryz.isAgg21
 z21:=Tryz.sizeOf21
 v21:=Tryz.zeroValue21
 t37:=Tryz.underlying42
 a37:=Tryz.isAgg42
 z37:=Tryz.sizeOf42
 v37:=Tryz.zeroValue42
 t46:=Tryz.underlying204
 a46:=Tryz.isAgg204
 z46:=Tryz.sizeOf204
 v46:=Tryz.zeroValue204
 t51:=Tryz.underlying148
 a51:=Tryz.isAgg148
 z51:=Tryz.sizeOf148
 v51:=Tryz.zeroValue148
 t53:=Tryz.underlying33
 a53:=Tryz.isAgg33
 z53:=Tryz.sizeOf33
 v53:=Tryz.zeroValue33
 t75:=Tryz.underlying48
 a75:=Tryz.isAgg48
 z75:=Tryz.sizeOf48
 v75:=Tryz.zeroValue48
 t76:=Tryz.underlying49
 a76:=Tryz.isAgg49
 z76:=Tryz.sizeOf49
 v76:=Tryz.zeroValue49
 t85:=Tryz.underlying109
 a85:=Tryz.isAgg109
 z85:=Tryz.sizeOf109
 v85:=Tryz.zeroValue109
 t127:=Tryz.underlying105
 a127:=Tryz.isAgg105
 z127:=Tryz.sizeOf105
 v127:=Tryz.zeroValue105
 t143:=Tryz.underlying263
 a143:=Tryz.isAgg263
 z143:=Tryz.sizeOf263
 v143:=Tryz.zeroValue263
 t145:=Tryz.underlying265
 a145:=Tryz.isAgg265
 z145:=Tryz.sizeOf265
 v145:=Tryz.zeroValue265
 t167:=Tryz.underlying108
 a167:=Tryz.isAgg108
 z167:=Tryz.sizeOf108
 v167:=Tryz.zeroValue108
 t168:=Tryz.underlying111
 a168:=Tryz.isAgg111
 z168:=Tryz.sizeOf111
 v168:=Tryz.zeroValue111
 t171:=Tryz.underlying208
 a171:=Tryz.isAgg208
 z171:=Tryz.sizeOf208
 v171:=Tryz.zeroValue208
 t173:=Tryz.underlying211
 a173:=Tryz.isAgg211
 z173:=Tryz.sizeOf211
 v173:=Tryz.zeroValue211
 t175:=Tryz.underlying202
 a175:=Tryz.isAgg202
 z175:=Tryz.sizeOf202
 v175:=Tryz.zeroValue202
 t210:=Tryz.underlying206
 a210:=Tryz.isAgg206
 z210:=Tryz.sizeOf206
 v210:=Tryz.zeroValue206
 t212:=Tryz.underlying267
 a212:=Tryz.isAgg267
 z212:=Tryz.sizeOf267
 v212:=Tryz.zeroValue267
 t213:=Tryz.underlying268
 a213:=Tryz.isAgg268
 z213:=Tryz.sizeOf268
 t232:=Tryz.underlying336
 a232:=Tryz.isAgg336
 z232:=Tryz.sizeOf336
 v232:=Tryz.zeroValue336
 t233:=Tryz.underlying337
 a233:=Tryz.isAgg337
 z233:=Tryz.sizeOf337
 v233:=Tryz.zeroValue337
 g15:=by kernel_rfl
 g16:=by kernel_rfl
 g17:=by kernel_rfl
 g18:=by kernel_rfl
 g19:=by kernel_rfl
 t80:=Tryz.underlying82
 a80:=Tryz.isAgg82
 z80:=Tryz.sizeOf82
 v80:=Tryz.zeroValue82
 i0:=by kernel_rfl
 i2:=by kernel_rfl
 i3:=by kernel_rfl
 i4:=by kernel_rfl
 i5:=by kernel_rfl
 i9:=by kernel_rfl
 i20:=by kernel_rfl
 i21:=by kernel_rfl
 i37:=by kernel_rfl
 i46:=by kernel_rfl
 i51:=by kernel_rfl
 i53:=by kernel_rfl
 i75:=by kernel_rfl
 i76:=by kernel_rfl
 i80:=by kernel_rfl
 i85:=by kernel_rfl
 i127:=by kernel_rfl
 i143:=by kernel_rfl
 i145:=by kernel_rfl
 i167:=by kernel_rfl
 i168:=by kernel_rfl
 i171:=by kernel_rfl
 i173:=by kernel_rfl
 i175:=by kernel_rfl
 i210:=by kernel_rfl
 i212:=by kernel_rfl
 i232:=by kernel_rfl
 i233:=by kernel_rfl
 m15:=by kernel_rfl
 m16:=by kernel_rfl
 m17:=by kernel_rfl
 m18:=by kernel_rfl
 m19:=by kernel_rfl
 c0:=by kernel_rfl
 c2:=by kernel_rfl
 c3:=by kernel_rfl
 c4:=by kernel_rfl
 c5:=by kernel_rfl
 c9:=by kernel_rfl
 c20:=by kernel_rfl
 c21:=by kernel_rfl
 c37:=by kernel_rfl
 c46:=by kernel_rfl
 c51:=by kernel_rfl
 c53:=by kernel_rfl
 c75:=by kernel_rfl
 c76:=by kernel_rfl
 c80:=by kernel_rfl
 c85:=by kernel_rfl
 c127:=by kernel_rfl
 c143:=by kernel_rfl
 c145:=by kernel_rfl
 c167:=by kernel_rfl
 c168:=by kernel_rfl
 c171:=by kernel_rfl
 c173:=by kernel_rfl
 c175:=by kernel_rfl
 c210:=by kernel_rfl
 c212:=by kernel_rfl
 c213:=by kernel_rfl
 c232:=by kernel_rfl
 c233:=by kernel_rfl}
open Go.RowKit in
theorem Tryz.strconv_Atoi_ok (s:ByteArray) (hmax:s.size≤9223372036854775806) (v:Int) (h:Lib.atoiAll s.data.toList=.ok v) (w:World):
 Calls Tryz.prog 14 #[.string s] w fun e w'=>e=.returned (.tuple #[.int .i64 v,.nilIface])∧(w'=w∨∃ t,w'=Lib.bytesWorld w 5 t):=Any.strconv_Atoi_ok Tryz.laysC172 s hmax v h w
open Go.RowKit in
theorem Tryz.strconv_Atoi_syntax_var (s : ByteArray) (hlim : s.size ≤ 281474976710656) (h : Lib.atoiAll s.data.toList = .«syntax») (tp : TypeId) (p : Value) (w : World) (hvar : w.var? Tryz.prog "strconv.ErrSyntax" = some #[.iface tp p]) :
 Calls Tryz.prog 14 #[.string s] w fun e w'=>∃ N,e=.returned (.tuple #[.int .i64 0,.iface 111 (.pointer (some ⟨N,0,none⟩))])∧w.heap.size≤N∧w'.heap[N]? =some (.cells #[.string ⟨#[65,116,111,105]⟩,.string s,.iface tp p] 206 (0,0))∧Below w.heap.size w w':=Any.strconv_Atoi_syntax_var Tryz.laysC172 s hlim h tp p w hvar
open Go.RowKit in
theorem Tryz.strconv_Atoi_range_var (s : ByteArray) (hlim : s.size ≤ 281474976710656) (h : Lib.atoiAll s.data.toList = .range) (tp : TypeId) (p : Value) (w : World) (hvar : w.var? Tryz.prog "strconv.ErrRange" = some #[.iface tp p]) :
 Calls Tryz.prog 14 #[.string s] w fun e w'=>∃ N,e=.returned (.tuple #[.int .i64 (Lib.atoiSat s.data.toList),.iface 111 (.pointer (some ⟨N,0,none⟩))])∧w.heap.size≤N∧w'.heap[N]? =some (.cells #[.string ⟨#[65,116,111,105]⟩,.string s,.iface tp p] 206 (0,0))∧Below w.heap.size w w':=Any.strconv_Atoi_range_var Tryz.laysC172 s hlim h tp p w hvar
def Tryz.lays143_ren:Go.Shelf.Ren:=⟨fun|143=>50|219=>98|217=>135|225=>136|224=>137|267=>138|266=>172|314=>173|n=>n,fun|9=>9|3=>3|4=>4|5=>5|46=>204|146=>299|51=>148|n=>n,fun|1=>2|n=>n⟩
theorem Tryz.lays143:Go.Proofs.Lays.n143 Tryz.prog Tryz.lays143_ren:={
 mixed:=by kernel_rfl
 f143:=Tryz.func50.trans (congrArg some (by kernel_rfl))
 f217:=Tryz.func135.trans (congrArg some (by kernel_rfl))
 f219:=Tryz.func98.trans (congrArg some (by kernel_rfl))
 f224:=Tryz.func137.trans (congrArg some (by kernel_rfl))
 f225:=Tryz.func136.trans (congrArg some (by kernel_rfl))
 f266:=Tryz.func172.trans (congrArg some (by kernel_rfl))
 f267:=Tryz.func138.trans (congrArg some (by kernel_rfl))
 f314:=Tryz.func173.trans (congrArg some (by kernel_rfl))
 t3:=Tryz.underlying3
 a3:=Tryz.isAgg3
 z3:=Tryz.sizeOf3
 v3:=Tryz.zeroValue3
 t4:=Tryz.underlying4
 a4:=Tryz.isAgg4
 z4:=Tryz.sizeOf4
 v4:=Tryz.zeroValue4
 t5:=Tryz.underlying5
 a5:=Tryz.isAgg5
 z5:=Tryz.sizeOf5
 v5:=Tryz.zeroValue5
 t9:=Tryz.underlying9
 a9:=Tryz.isAgg9
 z9:=Tryz.sizeOf9
 v9:=Tryz.zeroValue9
 t46:=Tryz.underlying204
 a46:=Tryz.isAgg204
 z46:=Tryz.sizeOf204
 v46:=Tryz.zeroValue204
 t51:=Tryz.underlying148
 a51:=Tryz.isAgg148
 z51:=Tryz.sizeOf148
 v51:=Tryz.zeroValue148
 t146:=Tryz.underlying299
 a146:=Tryz.isAgg299
 z146:=Tryz.sizeOf299
 v146:=Tryz.zeroValue299
 g1:=by kernel_rfl}
def Tryz.lays146_ren:Go.Shelf.Ren:=⟨fun|146=>13|221=>26|268=>48|138=>49|143=>50|195=>96|197=>62|218=>97|219=>98|260=>107|217=>135|225=>136|224=>137|267=>138|266=>172|314=>173|n=>n,fun|9=>9|31=>27|3=>3|4=>4|0=>0|105=>134|21=>21|5=>5|46=>204|119=>271|139=>274|138=>273|146=>299|51=>148|n=>n,fun|1=>2|3=>4|4=>5|n=>n⟩
theorem Tryz.lays146:Go.Proofs.Lays.n146 Tryz.prog Tryz.lays146_ren:={
 mixed:=by kernel_rfl
 f138:=Tryz.func49.trans (congrArg some (by kernel_rfl))
 f143:=Tryz.func50.trans (congrArg some (by kernel_rfl))
 f146:=Tryz.func13.trans (congrArg some (by kernel_rfl))
 f195:=Tryz.func96.trans (congrArg some (by kernel_rfl))
 f197:=Tryz.func62.trans (congrArg some (by kernel_rfl))
 f217:=Tryz.func135.trans (congrArg some (by kernel_rfl))
 f218:=Tryz.func97.trans (congrArg some (by kernel_rfl))
 f219:=Tryz.func98.trans (congrArg some (by kernel_rfl))
 f221:=Tryz.func26.trans (congrArg some (by kernel_rfl))
 f224:=Tryz.func137.trans (congrArg some (by kernel_rfl))
 f225:=Tryz.func136.trans (congrArg some (by kernel_rfl))
 f260:=Tryz.func107.trans (congrArg some (by kernel_rfl))
 f266:=Tryz.func172.trans (congrArg some (by kernel_rfl))
 f267:=Tryz.func138.trans (congrArg some (by kernel_rfl))
 f268:=Tryz.func48.trans (congrArg some (by kernel_rfl))
 f314:=Tryz.func173.trans (congrArg some (by kernel_rfl))
 t0:=Tryz.underlying0
 a0:=Tryz.isAgg0
 z0:=Tryz.sizeOf0
 v0:=Tryz.zeroValue0
 t3:=Tryz.underlying3
 a3:=Tryz.isAgg3
 z3:=Tryz.sizeOf3
 v3:=Tryz.zeroValue3
 t4:=Tryz.underlying4
 a4:=Tryz.isAgg4
 z4:=Tryz.sizeOf4
 v4:=Tryz.zeroValue4
 t5:=Tryz.underlying5
 a5:=Tryz.isAgg5
 z5:=Tryz.sizeOf5
 v5:=Tryz.zeroValue5
 t9:=Tryz.underlying9
 a9:=Tryz.isAgg9
 z9:=Tryz.sizeOf9
 v9:=Tryz.zeroValue9
 t21:=Tryz.underlying21
 a21:=Tryz.isAgg21
 z21:=Tryz.sizeOf21
 v21:=Tryz.zeroValue21
 t31:=Tryz.underlying27
 a31:=Tryz.isAgg27
 z31:=Tryz.sizeOf27
 v31:=Tryz.zeroValue27
 t46:=Tryz.underlying204
 a46:=Tryz.isAgg204
 z46:=Tryz.sizeOf204
 v46:=Tryz.zeroValue204
 t51:=Tryz.underlying148
 a51:=Tryz.isAgg148
 z51:=Tryz.sizeOf148
 v51:=Tryz.zeroValue148
 t105:=Tryz.underlying134
 a105:=Tryz.isAgg134
 z105:=Tryz.sizeOf134
 v105:=Tryz.zeroValue134
 t119:=Tryz.underlying271
 a119:=Tryz.isAgg271
 z119:=Tryz.sizeOf271
 t138:=Tryz.underlying273
 a138:=Tryz.isAgg273
 z138:=Tryz.sizeOf273
 v138:=Tryz.zeroValue273
 t139:=Tryz.underlying274
 a139:=Tryz.isAgg274
 z139:=Tryz.sizeOf274
 v139:=Tryz.zeroValue274
 t146:=Tryz.underlying299
 a146:=Tryz.isAgg299
 z146:=Tryz.sizeOf299
 v146:=Tryz.zeroValue299
 g1:=by kernel_rfl
 g3:=by kernel_rfl
 g4:=by kernel_rfl}
open Go.RowKit Go.Lib in
theorem Tryz.strings_Split (s sep:ByteArray) (m:Int) (w:World) (hs:s.size<4294967281) (hm:w.cell? ⟨2,0,none⟩=some (.int .i64 m)) (h1:1≤sep.size):
 Calls Tryz.prog 13 #[.string s,.string sep] w fun e w'=>
  e=.returned (.slice (some ⟨w.heap.size,0,none⟩) (Lib.countB s sep+1) (Lib.countB s sep+1))∧w'=w.alloc (.cells ((Lib.splitB sep 0 (Lib.countB s sep) s).map Value.string).toArray 9):=Any.strings_Split Tryz.lays146 (by kernel_rfl) s sep m w hs hm h1
end Go.Proofs
namespace Go.Proofs.YtiimlopcifljeaaGreatDoor.Cn
open Go.ChangeShapes Go.WideShapes Go.ChangeAt Go.RowKit Go.Joins Go.Sort
set_option linter.unusedVariables false
set_option linter.unusedSimpArgs false
set_option maxRecDepth 100000
set_option maxHeartbeats 1600000
structure LibV (w:World):Prop where
 hm:∃ m,w.cell? ⟨2,0,none⟩=some (.int .i64 m)
 es : ∃ tp p, w.var? Tryz.prog "strconv.ErrSyntax" = some #[.iface tp p]
 er : ∃ tp p, w.var? Tryz.prog "strconv.ErrRange" = some #[.iface tp p]
 ht : Lib.TabIs Tryz.prog w "internal/strconv.uint64pow10" .u64 Lib.pow10Tab
theorem var_below {w w':World} (h:Below w.heap.size w w') {n:String} {cs:Array Value} (hv:w.var? Tryz.prog n=some cs):w'.var? Tryz.prog n=some cs:=by
 unfold World.var? at hv ⊢
 cases hg:Tryz.prog.globalNamed n with
 |none=>rw[hg] at hv;cases hv
 |some g=>
  rw[hg] at hv;simp only[Option.bind_some] at hv ⊢
  cases hb:w.heap[g]? with
  |none=>rw[hb] at hv;cases hv
  |some o=>rw[h.block g (Array.getElem?_eq_some_iff.1 hb).1,hb];rw[hb] at hv;exact hv
theorem LibV.below {w w':World} (h:LibV w) (hb:Below w.heap.size w w'):LibV w':=by
 obtain⟨⟨m,h1⟩,⟨a,b,h2⟩,⟨c,d,h3⟩,h4⟩:=h;have hl:=World.block_lt_of_cell? _ _ h1;exact⟨⟨m,by rw[hb.cell hl];exact h1⟩,⟨a,b,var_below hb h2⟩,⟨c,d,var_below hb h3⟩,var_below hb h4⟩
theorem below_grow (w:World) (k:Nat) (os:Array Obj):Below w.heap.size w (grow (w.drewN k) os):=by
 refine⟨rfl,rfl,rfl,?_,fun i hi=>?_⟩
 · show w.heap.size≤(w.heap++os).size
   simp
 · show (w.heap++os)[i]? =w.heap[i]?
   rw[Array.getElem?_append_left hi]
theorem itoa_any (n:Int) (h0:-9223372036854775808≤n) (h1:n≤9223372036854775807) {w:World} (h:LibV w):Calls Tryz.prog 15 #[.int .i64 n] w fun e w'=>e=.returned (.string ⟨(Lib.itoa n).toArray⟩)∧Below w.heap.size w w':=by
 refine (Tryz.strconv_Itoa n h0 h1 w h.ht).mono ?_;rintro e w' ⟨rfl,k,os,rfl⟩;exact⟨rfl,below_grow _ _ _⟩
theorem atoi_ok (s:ByteArray) (hs:s.size≤100000) (v:Int) (h:Lib.atoiAll s.data.toList=.ok v) (w:World):Calls Tryz.prog 14 #[.string s] w fun e w'=>e=.returned (.tuple #[.int .i64 v,.nilIface])∧Below w.heap.size w w':=by
 refine (Tryz.strconv_Atoi_ok s (by omega) v h w).mono ?_;rintro e w' ⟨rfl,h⟩;refine⟨rfl,?_⟩
 rcases h with rfl|⟨t,rfl⟩
 · exact Below.refl _ _
 · exact below_bytesWorld _ _ _ _ (Nat.le_refl _)
theorem atoi_bad (s:ByteArray) (hs:s.size≤100000) (h:∀ v,Lib.atoiAll s.data.toList≠.ok v) {w:World} (hL:LibV w):Calls Tryz.prog 14 #[.string s] w fun e w'=>(∃ n a,e=.returned (.tuple #[.int .i64 n,.iface 111 (.pointer (some a))]))∧Below w.heap.size w w':=by
 cases h2:Lib.atoiAll s.data.toList with
 |ok v=>exact absurd h2 (h v)
 |«syntax»=>
  obtain⟨tp,p,he⟩:=hL.es;refine (Tryz.strconv_Atoi_syntax_var s (by omega) h2 tp p w he).mono ?_;rintro e w' ⟨N,rfl,-,-,hb⟩;exact⟨⟨_,_,rfl⟩,hb⟩
 |range=>
  obtain⟨tp,p,he⟩:=hL.er;refine (Tryz.strconv_Atoi_range_var s (by omega) h2 tp p w he).mono ?_;rintro e w' ⟨N,rfl,-,-,hb⟩;exact⟨⟨_,_,rfl⟩,hb⟩
theorem split_any (s:ByteArray) (hs:s.size≤100000) {w:World} (hL:LibV w):Calls Tryz.prog 13 #[.string s,.string ⟨#[32]⟩] w fun e w'=>∃ ps:List ByteArray,e=.returned (.slice (some ⟨w.heap.size,0,none⟩) ps.length ps.length)∧w'.heap[w.heap.size]? =some (.cells (strs ps).toArray 9)∧ps.map bl=Tt.sp 32 (bl s)∧Below w.heap.size w w':=by
 obtain⟨m,hm⟩:=hL.hm;refine (Tryz.strings_Split s ⟨#[32]⟩ m w (by omega) hm (by decide)).mono ?_;rintro e w' ⟨rfl,rfl⟩;have hl:(Lib.splitB ⟨#[32]⟩ 0 (Lib.countB s ⟨#[32]⟩) s).length=Lib.countB s ⟨#[32]⟩+1:=Lib.splitB_all _ (by decide) 0 _ s rfl;refine⟨Lib.splitB ⟨#[32]⟩ 0 (Lib.countB s ⟨#[32]⟩) s,by rw[hl],heap_alloc_new _ _,?_,(Below.refl _ _).alloc (Nat.le_refl _) _⟩;have:=Lib.splitB_data ⟨#[32]⟩ 0 (Lib.countB s ⟨#[32]⟩) s;have h2:=Tt.split_sp 32 (bl s).length (bl s) (Nat.le_refl _);rw[←h2];exact this
end Go.Proofs.YtiimlopcifljeaaGreatDoor.Cn
namespace Go.Proofs.YtiimlopcifljeaaGreatDoor.Cn
open Go.ChangeShapes Go.WideShapes Go.ChangeAt Go.RowKit
set_option linter.unusedVariables false
set_option linter.unusedSimpArgs false
set_option maxRecDepth 100000
set_option maxHeartbeats 1600000
def shpL:List Value:=.string ⟨#[]⟩::.int .i64 0::Tt.cwL.flatMap fun p=>[.string ⟨p.1.toArray⟩,.int .i64 (p.2:Int)]
theorem shapes_any (w:World):Calls Tryz.prog 16 #[] w fun e w'=>e=.returned (.agg shpL.toArray)∧Below w.heap.size w w':=by
 go_enter Tryz.func16,Tryz.ntmps16;go_wp2_with (refine wpList_store_row rfl 54 _ _ rfl w.heap.size shpL.toArray rfl rfl 54 _ (heap_alloc_new _ _) (by kernel_rfl) (by kernel_rfl) (by kernel_rfl) ?_);refine bodyPost_ret (results_cell_row rfl _ _ w.heap.size 54 shpL.toArray _ _ rfl (setRow_heap _ _ _ _ _ _ (heap_alloc_new _ _)) Tryz.underlying54 rfl (by kernel_rfl)) rfl ⟨rfl,below_setRow ((Below.refl _ _).alloc (Nat.le_refl _) _) (Nat.le_refl _) _⟩
theorem progCmd_eq {pn : Tt.Bs → Option Nat} {s a : Tt.Bs} {t : List Tt.Bs} (h : Tt.sp 32 s = a :: t) : Tt.progCmd pn s = if 4 < t.length + 1 then none else (match t.mapM pn with
    |none=>none
    |some l=>(Tt.cwL.findIdx? (fun p=>decide (p.1=a∧p.2=t.length))).map fun i=>(i+1,l)):=by
 unfold Tt.progCmd;rw[h];rfl
theorem ref_prog (s:Tt.Bs):Tt.refCmd s=Tt.progCmd Tt.pnC s:=(Tt.cmd_same Tt.pnC_p9 s).symm
theorem pnC_some {s:Tt.Bs} {x:Nat} (h:Tt.pnC s=some x):Lib.atoiAll s=.ok (x:Int)∧s.length≤9∧Lib.itoa (x:Int)=s:=by
 unfold Tt.pnC at h
 split at h
 · rename_i v hv
   split at h
   · cases h
   · rename_i h2
     obtain rfl:=Option.some.inj h;have h3:¬ v<0:=fun e=>h2 (.inl e)
     have h4:¬ 9<s.length:=fun e=>h2 (.inr (.inl e))
     have h5:Lib.itoa v=s:=Classical.byContradiction fun e=>h2 (.inr (.inr e))
     have h6:((v.toNat:Nat):Int)=v:=Int.toNat_of_nonneg (by omega);rw[h6];exact⟨hv,by omega,h5⟩
 · cases h
theorem pnC_none {s:Tt.Bs} (h:Tt.pnC s=none):(∀ v,Lib.atoiAll s≠.ok v)∨∃ v,Lib.atoiAll s=.ok v∧(v<0∨0≤v∧9<s.length∨0≤v∧s.length≤9∧Lib.itoa v≠s):=by
 unfold Tt.pnC at h
 split at h
 · rename_i v hv
   split at h
   · rename_i h2
     refine .inr ⟨v,hv,?_⟩
     by_cases h3:v<0
     · exact .inl h3
     · by_cases h4:9<s.length
       · exact .inr (.inl ⟨by omega,h4⟩)
       · refine .inr (.inr ⟨by omega,by omega,?_⟩)
         rcases h2 with h2|h2|h2
         · exact absurd h2 h3
         · exact absurd h2 h4
         · exact h2
   · cases h
 · rename_i h2
   exact .inl fun v e=>h2 v e
theorem cnum_any (n:Nat) (h:n<100) (w:World):Calls Tryz.prog 31 #[.int .i64 (n:Int)] w fun e w'=>e=.returned (.string ⟨(Lib.decDigits n).toArray⟩)∧w=w':=by
 have HI:=Lib.hid (Tryz.strconv_Itoa_small n h w);clear h;go_enter Tryz.func31,Tryz.ntmps31;go_wp2_with (go_at_call 15;refine HI.out.mono ?_;rintro e w' ⟨rfl,rfl⟩);go_ret;exact⟨rfl,rfl⟩
theorem ok_err (n:Nat) (h0:0<n) (h:n<100) (w:World):Calls Tryz.prog 21 #[.int .i64 (n:Int),.slice none 0 0] w fun e w'=>e=.returned (.string (⟨#[101,114,114,111,114,32]⟩++⟨(Lib.decDigits n).toArray⟩))∧w=w':=by
 have HI:=Lib.hid (cnum_any n h w);have h1:¬ (n:Int)=0:=by omega
 have h2:((n:Int) !=0)=true:=by rw[bne_iff_ne];exact h1
 have hl:(Lib.decDigits n).length≤2:=by
  rw[Tt.dec_dg];exact Tt.dg_len 1 n (by omega)
 obtain⟨D,hD⟩:∃ D:ByteArray,D=⟨(Lib.decDigits n).toArray⟩:=⟨_,rfl⟩
 have hs:D.size≤2:=by rw[hD];show (Lib.decDigits n).toArray.size≤2;simpa using hl
 rw[←hD] at HI ⊢;have h6:(⟨#[101,114,114,111,114,32]⟩:ByteArray).size=6:=rfl;have h7:¬ (⟨#[101,114,114,111,114,32]⟩:ByteArray).size+D.size>9223372036854775807:=by omega
 have h8:¬ 9223372036854775807<6+D.size:=by omega
 clear h h0 hl hD hs h6;go_enter Tryz.func21,Tryz.ntmps21;go_wp2_with (go_at_call 31;refine HI.out.mono ?_;rintro e w' ⟨rfl,rfl⟩)
 all_goals (go_ret;exact⟨rfl,rfl⟩)
theorem ok_nil (w:World):Calls Tryz.prog 21 #[.int .i64 0,.slice none 0 0] w fun e w'=>e=.returned (.string ⟨#[111,107]⟩)∧Below w.heap.size w w':=by
 have HJ:Hid (Calls Tryz.prog 32 #[.slice (some ⟨w.heap.size,0,none⟩) 1 1,.string ⟨#[32]⟩] (w.alloc (.cells #[.string ⟨#[111,107]⟩] 9)) fun e w'=>e=.returned (.string ⟨#[111,107]⟩)∧Below (w.alloc (.cells #[.string ⟨#[111,107]⟩] 9)).heap.size (w.alloc (.cells #[.string ⟨#[111,107]⟩] 9)) w'):=
  Tryz.strings_Join w.heap.size 0 1 [⟨#[111, 107]⟩] ⟨#[32]⟩ (w.alloc (.cells #[.string ⟨#[111, 107]⟩] 9)) (fun j x hx => by
    match j,hx with
    |0,hx=>obtain rfl:=Option.some.inj hx;rw[World.cell?_alloc_at _ _ _ _ rfl];rfl) (by simp) (by decide) (by decide) (by decide)
 go_enter Tryz.func21,Tryz.ntmps21;go_wp2_with (go_at_call 32;refine HJ.out.mono ?_;rintro e w' ⟨rfl,hb⟩);go_ret;exact⟨rfl,((Below.refl _ _).alloc (Nat.le_refl _) _).trans (hb.mono (by simp))⟩
theorem ok_one (p:ByteArray) (hp:p.size≤1000) (g cap:Nat) (w:World) (hg:w.cell? ⟨g,0,none⟩=some (.string p)):Calls Tryz.prog 21 #[.int .i64 0,.slice (some ⟨g,0,none⟩) 1 cap] w fun e w'=>e=.returned (.string ⟨(111::107::32::bl p).toArray⟩)∧Below w.heap.size w w':=by
 have hgl:=World.block_lt_of_cell? _ _ hg;have HG:=Lib.hid hg;have HO:Hid ((w.alloc (.cells #[.string ⟨#[111,107]⟩] 9)).ownsRow w.heap.size 9 1 (.slice (some ⟨w.heap.size,0,none⟩) 1 1) 1 [.string ⟨#[111,107]⟩]):=
  ⟨by simp,.inr ⟨w.heap.size,1,#[.string ⟨#[111,107]⟩],rfl,Nat.le_refl _,heap_alloc_new w _,Nat.le_refl _,by decide,rfl,rfl⟩⟩
 have HC:Hid ((w.alloc (.cells #[.string ⟨#[111,107]⟩] 9)).cell? ⟨g,0,none⟩=some (.string p)):=by
  show _=_;rw[World.cell?_alloc_old _ _ _ (Nat.ne_of_lt hgl)];exact HG.out
 clear hg;go_enter Tryz.func21,Tryz.ntmps21;go_wp2_with (at_builtin;refine append_S _ rfl (.tmp 10) (.tmp 11) rfl w.heap.size _ 1 [.string ⟨#[111,107]⟩] rfl HO.out ⟨g,0,none⟩ cap (.string p) rfl ?c1 rfl (by decide) (by simp) ?_)
 case c1=>
  intro j y hy
  match j,hy with
  |0,hy=>obtain rfl:=Option.some.inj hy;first|exact HC.out|exact HG.out
 intro v' w2 q1 q2;have q1':w2.ownsRow w.heap.size 9 1 v' 2 (strs [⟨#[111,107]⟩,p]):=q1;obtain⟨g2,cap2,rfl,hn1,hn2,hn3,hn4⟩:=own_pos q1' (by decide);have hj:Lib.join ([⟨#[111,107]⟩,p].map (·.data.toList)) (⟨#[32]⟩:ByteArray).data.toList=111::107::32::bl p:=by
  show Lib.join [[111,107],bl p] [32]=_;simp[Lib.join]
 have HJ:Hid (Calls Tryz.prog 32 #[.slice (some ⟨g2,0,none⟩) 2 cap2,.string ⟨#[32]⟩] w2 fun e w'=>e=.returned (.string ⟨(111::107::32::bl p).toArray⟩)∧Below w2.heap.size w2 w'):=by
  show Calls _ _ _ _ _;rw[←hj]
  exact Tryz.strings_Join g2 0 cap2 [⟨#[111, 107]⟩, p] ⟨#[32]⟩ w2 (fun j x hx => by
    rw[Nat.zero_add];exact own_cell q1' (by rw[strs,List.getElem?_map,hx];rfl)) hn4 (by simp) hn1 (by
      rw[hj]
      have:(bl p).length=p.size:=size_list p
      simp;omega)
 have HB:Hid (Below w.heap.size w w2):=(((Below.refl _ _).alloc (Nat.le_refl _) _)).grown q2 (by simp) (fun k hk=>(HO.out.lt k hk).1);clear q1 q1' q2;go_wp2_with (go_at_call 32;refine HJ.out.mono ?_;rintro e w' ⟨rfl,hb⟩);go_ret;exact⟨rfl,HB.out.trans (hb.mono HB.out.size)⟩
theorem nd_eq {k:Nat} (h:k<16):ndAt k=(Tt.cwL.getD k ([],0)).2:=by
 have:∀ k,k<16→ndAt k=(Tt.cwL.getD k ([],0)).2:=by decide
 exact this k h
theorem mapM_none' {l:List Tt.Bs} {k:Nat} {f:Tt.Bs→Option Nat} (h:(l.take k).mapM f=none):l.mapM f=none:=by
 rw[←List.take_append_drop k l,List.mapM_append,h];rfl
theorem keep5 {w w2 wr w5:World} {a gn:Nat} {z y:Obj} (hb:Below wr.heap.size wr w5) (f3:wr.heap[a]? =some z) (hN:wr.heap[gn]? =some y) (F4:Hid (Below w.heap.size w wr)) (HB:Hid (Below gn w2 wr)) (HZ:Hid (gn≤wr.heap.size)) (F5:Hid (LibV wr)):
 w5.heap[a]? =some z∧w5.heap[gn]? =some y∧Hid (Below w.heap.size w w5)∧Hid (Below gn w2 w5)∧Hid (gn≤w5.heap.size)∧Hid (LibV w5):=
 ⟨(hb.block _ (Array.getElem?_eq_some_iff.1 f3).1).trans f3,(hb.block _ (Array.getElem?_eq_some_iff.1 hN).1).trans hN,F4.out.trans (hb.mono F4.out.size),HB.out.trans (hb.mono HZ.out),Nat.le_trans HZ.out hb.size,F5.out.below hb⟩
theorem sp_mem (c:UInt8):∀ (l a:Tt.Bs),a∈Tt.sp c l→a.length≤l.length
 |[],a,h=>by simp[Tt.sp] at h;simp[h]
 |x::t,a,h=>by
  have ih:=sp_mem c t;rw[Tt.sp_cons] at h
  split at h
  · rcases List.mem_cons.1 h with rfl|h
    · simp
    · have:=ih a h;simp;omega
  · cases e:Tt.sp c t with
    |nil=>exact absurd e (Tt.sp_ne c t)
    |cons y r=>
     rw[e] at h ih
     rcases List.mem_cons.1 h with rfl|h
     · have:=ih y List.mem_cons_self;simp;omega
     · have:=ih a (List.mem_cons_of_mem _ h);simp;omega
theorem shp_cell {w:World} {g:Nat} (h:w.heap[g]? =some (.cells shpL.toArray 54)) {k:Nat} (h1:1≤k) (h2:k≤16):w.cell? ⟨g,k*2,none⟩=some (.string (nmAt (k - 1)))∧w.cell? ⟨g,k*2+1,none⟩=some (.int .i64 (ndAt (k - 1):Int)):=by
 rw[cell_of_row _ _ _ _ _ _ h,cell_of_row _ _ _ _ _ _ h];have:∀ k,k<17→1≤k→shpL[k*2]? =some (.string (nmAt (k - 1)))∧shpL[k*2+1]? =some (.int .i64 (ndAt (k - 1):Int)):=by
  intro k hk h1;have:k=1∨k=2∨k=3∨k=4∨k=5∨k=6∨k=7∨k=8∨k=9∨k=10∨k=11∨k=12∨k=13∨k=14∨k=15∨k=16:=by omega
  rcases this with rfl|rfl|rfl|rfl|rfl|rfl|rfl|rfl|rfl|rfl|rfl|rfl|rfl|rfl|rfl|rfl<;>exact⟨rfl,rfl⟩
 have:=this k (by omega) h1
 simpa using this
theorem parse_any (s:ByteArray) {w:World} (hL:LibV w):Calls Tryz.prog 6 #[.string s] w fun e w'=>e=.returned (.tuple #[.agg ((cmR s).1.map fun x=>Value.int .i64 x).toArray,.int .i64 (cmR s).2])∧Below w.heap.size w w':=by
 by_cases h100:100<s.size
 · have b2:(100:Int)<(s.size:Int):=by omega
   unfold cmR;rw[if_pos h100];clear hL;go_enter Tryz.func6,Tryz.ntmps6;go_wp2;refine bodyPost_ret (Em.results_cell_tmp_row rfl _ _ w.heap.size 23 #[.int .i64 0,.int .i64 0,.int .i64 0,.int .i64 0] _ _ rfl (heap_alloc_new w _) Tryz.underlying23 rfl (by kernel_rfl)) rfl ⟨rfl,(Below.refl _ _).alloc (Nat.le_refl _) _⟩
 · have b2:¬ (100:Int)<(s.size:Int):=by omega
   have HR:Hid (cmR s=(cmOf (Tt.refCmd (bl s)),if (Tt.refCmd (bl s)).isSome then 0 else 3)):=by
    show _=_;unfold cmR;rw[if_neg h100]
   generalize hRR:cmR s=RR at*;have HL:=Lib.hid hL;have HW:=Lib.hid (split_any s (by omega) (hL.below ((Below.refl _ _).alloc (Nat.le_refl _) (.cells #[.int .i64 0,.int .i64 0,.int .i64 0,.int .i64 0] 23))));clear hRR hL;go_enter Tryz.func6,Tryz.ntmps6;go_upto_region 4 with (go_at_call 13;refine HW.out.mono ?_;rintro e w2 ⟨ps,rfl,q1,q2,q3⟩;have hps:0<ps.length:=(by have h9:=congrArg List.length q2;have h8:=Tt.sp_ne 32 (bl s);rw[List.length_map] at h9;rw[h9];exact List.length_pos_iff.2 h8);have Q1:=Lib.hid q1;have Q2:=Lib.hid q2;have Q3:=Lib.hid q3;clear q1 q2 q3)
   obtain⟨p0,hp0⟩:∃ p0,ps[0]? =some p0:=⟨ps[0],List.getElem?_eq_getElem hps⟩
   have HN : Hid (∀ W, Below w2.heap.size w2 W → (∀ (j : Nat) (p : ByteArray), ps[j]? = some p → W.cell? ⟨w.heap.size + 1, j, none⟩ = some (.string p)) ∧
       W.heap[w.heap.size]? =some (.cells #[.int .i64 0,.int .i64 0,.int .i64 0,.int .i64 0] 23)∧Below w.heap.size w W∧LibV W):=by
    intro W hB;have s2:=Q3.out.size;have q1:=Q1.out;rw[World.size_alloc] at s2 q1;have l1:=(Array.getElem?_eq_some_iff.1 q1).1;have hbw:Below w.heap.size w W:=(((Below.refl _ _).alloc (Nat.le_refl _) _).trans (Q3.out.mono (by simp))).trans (hB.mono (by omega));refine⟨fun j p hj=>?_,?_,hbw,HL.out.below hbw⟩
    · rw[cell_of_row _ _ _ _ _ _ ((hB.block _ l1).trans q1)]
      simp[strs,hj]
    · rw[hB.block _ (by omega),Q3.out.block _ (by simp)];exact heap_alloc_new w _
   have hsp:Tt.sp 32 (bl s)=bl p0::ps.tail.map bl:=by
    rw[←Q2.out]
    cases ps with
    |nil=>cases hp0
    |cons x r=>obtain rfl:x=p0:=Option.some.inj hp0;rfl
   have HE : Hid (Tt.refCmd (bl s) = if 4 < ps.length then none else (match (ps.tail.map bl).mapM Tt.pnC with
       |none=>none
       |some l=>(Tt.cwL.findIdx? (fun p=>decide (p.1=bl p0∧p.2=(ps.tail.map bl).length))).map fun i=>(i+1,l))):=by
    show _=_;rw[ref_prog,progCmd_eq hsp];have:(ps.tail.map bl).length+1=ps.length:=by rw[List.length_map,List.length_tail];omega
    rw[this]
   have HSZ:Hid (w.heap.size+1<w2.heap.size):=by
    have q1:=Q1.out;rw[World.size_alloc] at q1;exact (Array.getElem?_eq_some_iff.1 q1).1
   have HMX:Hid (∀ (j:Nat) (p:ByteArray),ps[j]? =some p→p.size≤100000):=by
    intro j p hj;have hm:bl p∈Tt.sp 32 (bl s):=by rw[←Q2.out];exact List.mem_map_of_mem (List.mem_of_getElem? hj)
    have:=sp_mem 32 (bl s) _ hm;have e1:(bl p).length=p.size:=size_list p;have e2:(bl s).length=s.size:=size_list s;omega
   clear hsp Q1 Q2 Q3
   by_cases h4:4<ps.length
   · have h4':(4:Int)<(ps.length:Int):=by omega
     obtain⟨-,f3,f4,-⟩:=HN.out (w2.alloc (.cells #[.int .i64 0,.int .i64 0,.int .i64 0] 46)) ((Below.refl _ _).alloc (Nat.le_refl _) _);have F4:=Lib.hid f4;have HE2:Hid (Tt.refCmd (bl s)=none):=by
      show _=_;rw[HE.out,if_pos h4]
     clear HE h4 f4;go_wp2_with (refine wpList_store_row rfl 23 _ _ rfl w.heap.size #[.int .i64 0,.int .i64 0,.int .i64 0,.int .i64 0] rfl rfl 23 _ f3 (by kernel_rfl) rfl (by simp[Value.oneCell']) ?_);refine bodyPost_ret (Em.results_cell_tmp_row rfl _ _ w.heap.size 23 #[.int .i64 0,.int .i64 0,.int .i64 0,.int .i64 0] _ _ rfl (setRow_heap _ _ _ _ _ _ f3) Tryz.underlying23 rfl (by kernel_rfl)) rfl ⟨?_,below_setRow F4.out (Nat.le_refl _) _⟩;rw[HR.out,HE2.out];rfl
   · have h4':¬ (4:Int)<(ps.length:Int):=by omega
     have h1':(1:Int)≤(ps.length:Int):=by omega
     have HE2 : Hid (Tt.refCmd (bl s) = match (ps.tail.map bl).mapM Tt.pnC with
       |none=>none
       |some l=>(Tt.cwL.findIdx? (fun p=>decide (p.1=bl p0∧p.2=(ps.tail.map bl).length))).map fun i=>(i+1,l)):=by
      show _=_;rw[HE.out,if_neg h4]
     clear HE;have HPS:Hid (0<ps.length∧¬ 4<ps.length):=⟨hps,h4⟩
     clear h4;have HB0:Hid (Below w2.heap.size w2 (w2.alloc (.cells #[.int .i64 0,.int .i64 0,.int .i64 0] 46))∧(w2.alloc (.cells #[.int .i64 0,.int .i64 0,.int .i64 0] 46)).heap[w2.heap.size]? =some (.cells #[.int .i64 0,.int .i64 0,.int .i64 0] 46)):=
      ⟨(Below.refl _ _).alloc (Nat.le_refl _) _,heap_alloc_new _ _⟩
     go_wp2_with fail
     all_goals
      generalize w2.alloc (.cells #[.int .i64 0,.int .i64 0,.int .i64 0] 46)=wi at*;generalize hgn:w2.heap.size=gn at*
      go_loopw [25] (fun i wr=>∃ (q:Nat) (l:List Nat),i=.int .i64 (q:Int)∧q≤ps.length - 1∧((ps.tail.map bl).take q).mapM Tt.pnC=some l∧l.length=q∧wr.heap[gn]? =some (.cells (padN l) 46)∧Below gn w2 wr) (fun i _=>msr 3 i)
      case atStart=>exact⟨0,[],rfl,Nat.zero_le _,rfl,rfl,HB0.out.2,HB0.out.1⟩
      case round=>
       clear HB0 wi;obtain⟨q,l,rfl,hq,hm,hl,hN,hB⟩:=hrel;obtain⟨f1,f3,f4,f5⟩:=HN.out _ hB;have F4:=Lib.hid f4;have F5:=Lib.hid f5;have HB:=Lib.hid hB;have HM:=Lib.hid hm;clear hm hB f4 f5
       by_cases hend:q=ps.length - 1
       · have hq1:¬ (q:Int)<((ps.length - 1:Nat):Int):=by omega
         have HLM:Hid (∀ o,Tt.cwL.findIdx? (fun p=>decide (p.1=bl p0∧p.2=(ps.tail.map bl).length))=o→Tt.refCmd (bl s)=o.map fun i=>(i+1,l)):=by
          intro o ho;have:=HM.out;rw[List.take_of_length_le (by rw[List.length_map,List.length_tail];omega)] at this;rw[HE2.out,this];simp only[ho]
         clear f1 f3;go_wp2_with (first|(go_at_call 16;refine (shapes_any _).mono ?_;rintro e w3 ⟨rfl,hb3⟩;have HB3:=Lib.hid hb3;clear hb3)|(refine wpList_store_row rfl 54 _ _ rfl w3.heap.size shpL.toArray rfl rfl 54 _ (heap_alloc_new _ _) (by kernel_rfl) (by kernel_rfl) (by kernel_rfl) ?_));obtain⟨z34,hz34⟩:∃ z:Array Value,z=Array.mk (List.flatten (List.replicate 17 [Value.string ⟨#[]⟩,Value.int .i64 0])):=⟨_,rfl⟩
         have hz:(w3.alloc (.cells z34 54)).setRow w3.heap.size shpL.toArray=(w3.alloc (.cells z34 54)).setRow w3.heap.size shpL.toArray:=rfl
         conv at hz=>lhs;rw[hz34]
         have HW2:Hid (Below gn w2 ((w3.alloc (.cells z34 54)).setRow w3.heap.size shpL.toArray)∧((w3.alloc (.cells z34 54)).setRow w3.heap.size shpL.toArray).heap[w3.heap.size]? =some (.cells shpL.toArray 54)∧((w3.alloc (.cells z34 54)).setRow w3.heap.size shpL.toArray).heap[gn]? =some (.cells (padN l) 46)):=by
          have s3:=HB3.out.size;have l1:=(Array.getElem?_eq_some_iff.1 hN).1;have s4:=HB.out.size;rw[hgn] at s4;refine⟨?_,setRow_heap _ _ _ _ _ _ (heap_alloc_new _ _),?_⟩
          · exact below_setRow (((HB.out.trans (HB3.out.mono (by omega)))).alloc (by omega) _) (by omega) _
          · rw[setRow_other _ _ _ _ (by omega),heap_alloc_old _ _ (by omega),HB3.out.block _ l1];exact hN
         have hzz:(w3.alloc (.cells z34 54)).setRow w3.heap.size shpL.toArray=(w3.alloc (.cells z34 54)).setRow w3.heap.size shpL.toArray:=rfl;clear hzz hz;have hx:∃ wk,(w3.alloc (.cells z34 54)).setRow w3.heap.size shpL.toArray=wk:=⟨_,rfl⟩
         obtain⟨wk,hwk⟩:=hx;rw[hwk] at HW2;rw[hz34] at hwk;simp only[List.replicate,List.flatten,List.append,List.cons_append,List.nil_append] at hwk;rw[hwk];generalize hga:w3.heap.size=ga at*;clear hN HB HB3 hwk hz34 z34
         go_loopw [11] (fun i wr=>∃ (k:Nat),i=.int .i64 (k:Int)∧1≤k∧k≤17∧(∀ j,j+1<k→¬ ((Tt.cwL.getD j ([],0)).1=bl p0∧(Tt.cwL.getD j ([],0)).2=ps.length - 1))∧Below wk.heap.size wk wr) (fun i _=>msr 17 i)
         case atStart=>exact⟨1,rfl,Nat.le_refl _,by omega,(fun j h=>by omega),Below.refl _ _⟩
         case round=>
          obtain⟨k,rfl,hk1,hk2,hno,hB⟩:=hrel;have sgn:gn≤wk.heap.size:=by
           have:=(Array.getElem?_eq_some_iff.1 HW2.out.2.2).1;omega
          obtain⟨f1,f3,f4,-⟩:=HN.out _ (HW2.out.1.trans (hB.mono sgn));have F4:=Lib.hid f4;have HB:=Lib.hid hB;have hga2:=(hB.block _ (Array.getElem?_eq_some_iff.1 HW2.out.2.1).1).trans HW2.out.2.1;have hgl2:=(hB.block _ (Array.getElem?_eq_some_iff.1 HW2.out.2.2).1).trans HW2.out.2.2;have c2:=f1 0 p0 hp0;have HNO:=Lib.hid hno;have hlt3:(ps.tail.map bl).length=ps.length - 1:=by rw[List.length_map,List.length_tail]
          clear hB f4 f1 hno
          by_cases h17:k=17
          · have HN2:Hid (Tt.refCmd (bl s)=none):=by
             show _=_;refine HLM.out none ?_;rw[List.findIdx?_eq_none_iff,hlt3];intro p hp;obtain⟨j,hj,rfl⟩:=List.mem_iff_getElem.1 hp;have hj16:j<16:=hj;have:=HNO.out j (by omega);rw[List.getD_eq_getElem?_getD,List.getElem?_eq_getElem hj] at this
             simpa using this
            subst h17;clear hga2 hgl2 c2 hlt3;go_wp2_with (refine wpList_store_row rfl 23 _ _ rfl w.heap.size #[.int .i64 0,.int .i64 0,.int .i64 0,.int .i64 0] rfl rfl 23 _ f3 (by kernel_rfl) rfl (by simp[Value.oneCell']) ?_);refine bodyPost_ret (Em.results_cell_tmp_row rfl _ _ w.heap.size 23 #[.int .i64 0,.int .i64 0,.int .i64 0,.int .i64 0] _ _ rfl (setRow_heap _ _ _ _ _ _ f3) Tryz.underlying23 rfl (by kernel_rfl)) rfl ⟨?_,below_setRow F4.out (Nat.le_refl _) _⟩;rw[HR.out,HN2.out];rfl
          · have hk16:k≤16:=by omega
            obtain⟨c3,c4⟩:=shp_cell hga2 hk1 hk16;clear hga2;have hnmk:(nmAt (k - 1)).toList=(Tt.cwL.getD (k - 1) ([],0)).1:=nm_toList (by omega);have hndk:ndAt (k - 1)=(Tt.cwL.getD (k - 1) ([],0)).2:=nd_eq (by omega)
            by_cases e1:(nmAt (k - 1)).toList=p0.toList
            · have b3:((nmAt (k - 1)).toList==p0.toList)=true:=by rw[beq_iff_eq];exact e1
              by_cases e2:ndAt (k - 1)=ps.length - 1
              · have HN2:Hid (Tt.refCmd (bl s)=some (k - 1+1,l)):=by
                 show _=_;refine HLM.out (some (k - 1)) ?_;rw[List.findIdx?_eq_some_iff_getElem,hlt3];have hk15:k - 1<Tt.cwL.length:=by show k - 1<16;omega
                 refine⟨hk15,?_,fun j hj=>?_⟩
                 · rw[List.getD_eq_getElem?_getD,List.getElem?_eq_getElem hk15] at hnmk hndk
                   have e3:Tt.cwL[k - 1].1=bl p0:=hnmk.symm.trans (e1.trans (ByteArray.toList_eq p0));simp only[decide_eq_true_eq];exact⟨e3,hndk.symm.trans e2⟩
                 · have:=HNO.out j (by omega)
                   rw[List.getD_eq_getElem?_getD,List.getElem?_eq_getElem (by omega)] at this
                   simpa using this
                have hA:((ndAt (k - 1):Int)==(ps.length:Int) - 1)=true:=by rw[beq_iff_eq];omega
                have hA0:ps.length=1→((ndAt (k - 1):Int)==0)=true:=by intro e;rw[beq_iff_eq];omega
                have hkk:k - 1+1=k:=by omega
                have c5:wr.cell? ⟨gn,0,none⟩=some (.int .i64 ((l.getD 0 0:Nat):Int)):=by rw[cell_of_row _ _ _ _ _ _ hgl2];rfl
                have c6:wr.cell? ⟨gn,1,none⟩=some (.int .i64 ((l.getD 1 0:Nat):Int)):=by rw[cell_of_row _ _ _ _ _ _ hgl2];rfl
                have c7:wr.cell? ⟨gn,2,none⟩=some (.int .i64 ((l.getD 2 0:Nat):Int)):=by rw[cell_of_row _ _ _ _ _ _ hgl2];rfl
                generalize hl0:((l.getD 0 0:Nat):Int)=l0 at*;generalize hl1:((l.getD 1 0:Nat):Int)=l1 at*;generalize hl2:((l.getD 2 0:Nat):Int)=l2 at*;rw[hkk] at HN2;have HLL:Hid (RR=([(k:Int),l0,l1,l2],0)):=by
                 show _=_;rw[HR.out,HN2.out,←hl0,←hl1,←hl2];rfl
                have f3d:wr.drew.heap[w.heap.size]? =some (.cells #[.int .i64 0,.int .i64 0,.int .i64 0,.int .i64 0] 23):=f3;clear e1 hnmk hndk e2 hgl2 hl0 hl1 hl2 hkk f3;have hA1:ps.length=1∨ps.length≠1:=by omega
                rcases hA1 with e10|e10
                · have hA1:=hA0 e10
                  clear hA0;go_wp2_with fail
                  all_goals go_region
                  all_goals go_wp2_with (refine wpList_store_row rfl 23 _ _ rfl w.heap.size #[.int .i64 (k:Int),.int .i64 l0,.int .i64 l1,.int .i64 l2] rfl rfl 23 _ f3d (by kernel_rfl) rfl (by simp[Value.oneCell']) ?_)
                  all_goals refine bodyPost_ret (Em.results_cell_tmp_row rfl _ _ w.heap.size 23 #[.int .i64 (k:Int),.int .i64 l0,.int .i64 l1,.int .i64 l2] _ _ rfl (setRow_heap _ _ _ _ _ _ f3d) Tryz.underlying23 rfl (by kernel_rfl)) rfl ⟨?_,below_setRow F4.out.drew (Nat.le_refl _) _⟩
                  all_goals (rw[HLL.out];rfl)
                · clear hA0
                  go_wp2_with fail
                  all_goals go_region
                  all_goals go_wp2_with (refine wpList_store_row rfl 23 _ _ rfl w.heap.size #[.int .i64 (k:Int),.int .i64 l0,.int .i64 l1,.int .i64 l2] rfl rfl 23 _ f3d (by kernel_rfl) rfl (by simp[Value.oneCell']) ?_)
                  all_goals refine bodyPost_ret (Em.results_cell_tmp_row rfl _ _ w.heap.size 23 #[.int .i64 (k:Int),.int .i64 l0,.int .i64 l1,.int .i64 l2] _ _ rfl (setRow_heap _ _ _ _ _ _ f3d) Tryz.underlying23 rfl (by kernel_rfl)) rfl ⟨?_,below_setRow F4.out.drew (Nat.le_refl _) _⟩
                  all_goals (rw[HLL.out];rfl)
              · have HNN:Hid (∀ j,j+1<k+1→¬ ((Tt.cwL.getD j ([],0)).1=bl p0∧(Tt.cwL.getD j ([],0)).2=ps.length - 1)):=by
                 intro j hj
                 by_cases e:j=k - 1
                 · subst e;rintro ⟨-,e3⟩;apply e2;rw[hndk,e3]
                 · exact HNO.out j (by omega)
                have hA:((ndAt (k - 1):Int)==(ps.length:Int) - 1)=false:=by rw[beq_eq_false_iff_ne];omega
                have hA0:ps.length=1→((ndAt (k - 1):Int)==0)=false:=by intro e;rw[beq_eq_false_iff_ne];omega
                clear f3 e1 hnmk hndk e2 hgl2
                by_cases e10:ps.length=1
                · have hA1:=hA0 e10
                  clear hA0;go_wp2_with fail
                  all_goals go_region
                  all_goals go_wp2
                  all_goals refine⟨⟨k+1,rfl,by omega,by omega,HNN.out,HB.out.trans ⟨rfl,rfl,rfl,Nat.le_refl _,fun _ _=>rfl⟩⟩,by show 17 - ((k:Int)+1).toNat<17 - (k:Int).toNat;omega⟩
                · clear hA0
                  go_wp2_with fail
                  all_goals go_region
                  all_goals go_wp2
                  all_goals refine⟨⟨k+1,rfl,by omega,by omega,HNN.out,HB.out.trans ⟨rfl,rfl,rfl,Nat.le_refl _,fun _ _=>rfl⟩⟩,by show 17 - ((k:Int)+1).toNat<17 - (k:Int).toNat;omega⟩
            · have b3:((nmAt (k - 1)).toList==p0.toList)=false:=by rw[beq_eq_false_iff_ne];exact e1
              have HNN:Hid (∀ j,j+1<k+1→¬ ((Tt.cwL.getD j ([],0)).1=bl p0∧(Tt.cwL.getD j ([],0)).2=ps.length - 1)):=by
               intro j hj
               by_cases e:j=k - 1
               · subst e;rintro ⟨e2,-⟩;apply e1;rw[hnmk,e2];exact (ByteArray.toList_eq _).symm
               · exact HNO.out j (by omega)
              clear f3 e1 hnmk hndk;go_wp2_with fail
              go_region
              go_wp2;refine⟨⟨k+1,rfl,by omega,by omega,HNN.out,HB.out.trans ⟨rfl,rfl,rfl,Nat.le_refl _,fun _ _=>rfl⟩⟩,by show 17 - ((k:Int)+1).toNat<17 - (k:Int).toNat;omega⟩
       · have hlq:q<ps.length - 1:=by omega
         obtain⟨pq,hpq⟩:∃ pq,ps[q+1]? =some pq:=⟨ps[q+1]'(by omega),List.getElem?_eq_getElem _⟩
         have c4:wr.cell? ⟨w.heap.size+1,1+q,none⟩=some (.string pq):=by rw[Nat.add_comm 1 q];exact f1 (q+1) pq hpq
         have HT:Hid ((ps.tail.map bl).take (q+1)=(ps.tail.map bl).take q++[bl pq]):=by
          show _=_;rw[List.take_add_one,List.getElem?_map,List.getElem?_tail,hpq];rfl
         have hq1:(q:Int)<((ps.length - 1:Nat):Int):=by omega
         have hq3:q<3:=by have:=HPS.out.2;omega
         have hq3':(q:Int)<3:=by omega
         have HZ:Hid (gn≤wr.heap.size):=Nat.le_of_lt (Array.getElem?_eq_some_iff.1 hN).1;have HPQ:Hid (pq.size≤100000):=HMX.out _ _ hpq;clear f1 hpq
         cases hx:Tt.pnC (bl pq) with
         |none=>
          have HM2:Hid (Tt.refCmd (bl s)=none):=by
           show _=_;rw[HE2.out,mapM_none' (k:=q+1) (by rw[HT.out,List.mapM_append,HM.out];show (do let b ←[bl pq].mapM Tt.pnC;pure (l++b))=none;rw[List.mapM_cons,hx];rfl)]
          rcases pnC_none hx with hb|⟨v,hv,hc⟩
          · have HAT:=Lib.hid (atoi_bad pq HPQ.out hb F5.out)
            clear hb hx;go_wp2_with (first|(go_at_call 14;refine HAT.out.mono ?_;rintro e w5 ⟨⟨n5,a5,rfl⟩,hb5⟩;obtain⟨g35,gN5,HF5,HG5,HZ5,HL5⟩:=keep5 hb5 f3 hN F4 HB HZ F5;clear hb5)|(refine wpList_store_row rfl 23 _ _ rfl w.heap.size #[.int .i64 0,.int .i64 0,.int .i64 0,.int .i64 0] rfl rfl 23 _ g35 (by kernel_rfl) rfl (by simp[Value.oneCell']) ?_))
            all_goals refine bodyPost_ret (Em.results_cell_tmp_row rfl _ _ w.heap.size 23 #[.int .i64 0,.int .i64 0,.int .i64 0,.int .i64 0] _ _ rfl (setRow_heap _ _ _ _ _ _ g35) Tryz.underlying23 rfl (by kernel_rfl)) rfl ⟨?_,below_setRow HF5.out (Nat.le_refl _) _⟩
            all_goals (rw[HR.out,HM2.out];rfl)
          have HAT:=Lib.hid (atoi_ok pq HPQ.out v hv wr);have HVB:=Lib.hid (Lib.atoiAll_bounds hv);clear hv hx
          rcases hc with hc|⟨hc1,hc2⟩|⟨hc1,hc2,hc3⟩
          · go_wp2_with (first|(go_at_call 14;refine HAT.out.mono ?_;rintro e w5 ⟨rfl,hb5⟩;obtain⟨g35,gN5,HF5,HG5,HZ5,HL5⟩:=keep5 hb5 f3 hN F4 HB HZ F5;clear hb5)|(refine wpList_store_row rfl 23 _ _ rfl w.heap.size #[.int .i64 0,.int .i64 0,.int .i64 0,.int .i64 0] rfl rfl 23 _ g35 (by kernel_rfl) rfl (by simp[Value.oneCell']) ?_))
            all_goals refine bodyPost_ret (Em.results_cell_tmp_row rfl _ _ w.heap.size 23 #[.int .i64 0,.int .i64 0,.int .i64 0,.int .i64 0] _ _ rfl (setRow_heap _ _ _ _ _ _ g35) Tryz.underlying23 rfl (by kernel_rfl)) rfl ⟨?_,below_setRow HF5.out (Nat.le_refl _) _⟩
            all_goals (rw[HR.out,HM2.out];rfl)
          · have hc0:¬ v<0:=by omega
            have hc4:(9:Int)<(pq.size:Int):=by have:=size_list pq;unfold bl at hc2;omega
            clear hc2;go_wp2_with (first|(go_at_call 14;refine HAT.out.mono ?_;rintro e w5 ⟨rfl,hb5⟩;obtain⟨g35,gN5,HF5,HG5,HZ5,HL5⟩:=keep5 hb5 f3 hN F4 HB HZ F5;clear hb5)|(refine wpList_store_row rfl 23 _ _ rfl w.heap.size #[.int .i64 0,.int .i64 0,.int .i64 0,.int .i64 0] rfl rfl 23 _ g35 (by kernel_rfl) rfl (by simp[Value.oneCell']) ?_))
            all_goals refine bodyPost_ret (Em.results_cell_tmp_row rfl _ _ w.heap.size 23 #[.int .i64 0,.int .i64 0,.int .i64 0,.int .i64 0] _ _ rfl (setRow_heap _ _ _ _ _ _ g35) Tryz.underlying23 rfl (by kernel_rfl)) rfl ⟨?_,below_setRow HF5.out (Nat.le_refl _) _⟩
            all_goals (rw[HR.out,HM2.out];rfl)
          · have hc0:¬ v<0:=by omega
            have hc4:¬ (9:Int)<(pq.size:Int):=by have:=size_list pq;unfold bl at hc2;omega
            have hc5:(Lib.itoa v==pq.toList)=false:=by rw[beq_eq_false_iff_ne,ByteArray.toList_eq];exact hc3
            clear hc2 hc3;go_wp2_with (first|(go_at_call 14;refine HAT.out.mono ?_;rintro e w5 ⟨rfl,hb5⟩;obtain⟨g35,gN5,HF5,HG5,HZ5,HL5⟩:=keep5 hb5 f3 hN F4 HB HZ F5;clear hb5)|(go_at_call 15;refine (itoa_any v HVB.out.1 HVB.out.2 HL5.out).mono ?_;rintro e w6 ⟨rfl,hb6⟩;obtain⟨g36,gN6,HF6,HG6,HZ6,HL6⟩:=keep5 hb6 g35 gN5 HF5 HG5 HZ5 HL5;clear hb6)|(refine wpList_store_row rfl 23 _ _ rfl w.heap.size #[.int .i64 0,.int .i64 0,.int .i64 0,.int .i64 0] rfl rfl 23 _ g36 (by kernel_rfl) rfl (by simp[Value.oneCell']) ?_))
            all_goals refine bodyPost_ret (Em.results_cell_tmp_row rfl _ _ w.heap.size 23 #[.int .i64 0,.int .i64 0,.int .i64 0,.int .i64 0] _ _ rfl (setRow_heap _ _ _ _ _ _ g36) Tryz.underlying23 rfl (by kernel_rfl)) rfl ⟨?_,below_setRow HF6.out (Nat.le_refl _) _⟩
            all_goals (rw[HR.out,HM2.out];rfl)
         |some x=>
          obtain⟨hv,hc2,hc3⟩:=pnC_some hx;have HX:=Lib.hid hx;have HAT:=Lib.hid (atoi_ok pq HPQ.out x hv wr);have HVB:=Lib.hid (Lib.atoiAll_bounds hv);have hc5:(Lib.itoa (x:Int)==pq.toList)=true:=by rw[beq_iff_eq,ByteArray.toList_eq];exact hc3
          have hc4:¬ (9:Int)<(pq.size:Int):=by have:=size_list pq;unfold bl at hc2;omega
          have hc0:¬ (x:Int)<0:=by omega
          clear hv hc2 hc3 hx;obtain⟨v,hvx⟩:∃ v:Int,v=(x:Int):=⟨_,rfl⟩
          rw[←hvx] at HAT HVB hc5 hc0;have HVX:=Lib.hid hvx;clear hvx;go_wp2_with (first|(go_at_call 14;refine HAT.out.mono ?_;rintro e w5 ⟨rfl,hb5⟩;obtain⟨g35,gN5,HF5,HG5,HZ5,HL5⟩:=keep5 hb5 f3 hN F4 HB HZ F5;clear hb5)|(go_at_call 15;refine (itoa_any v HVB.out.1 HVB.out.2 HL5.out).mono ?_;rintro e w6 ⟨rfl,hb6⟩;obtain⟨g36,gN6,HF6,HG6,HZ6,HL6⟩:=keep5 hb6 g35 gN5 HF5 HG5 HZ5 HL5;clear hb6;have c5:w6.cell? ⟨gn,q,none⟩=some (.int .i64 ((l.getD q 0:Nat):Int)):=(by rw[cell_of_row _ _ _ _ _ _ gN6];exact padN_get hq3);have c6:w6.frozen? ⟨gn,q,none⟩=false:=frozen_of_row _ _ _ _ _ gN6))
          all_goals
           have HH:Hid ((w6.setCell ⟨gn,q,none⟩ (.int .i64 v)).heap[gn]? =some (.cells (padN (l++[x])) 46)):=by
            show _=_;rw[heap_setCell_same _ _ _ _ _ _ gN6,HVX.out,padN_set hq3 hl]
           have HB7:=Lib.hid (HG6.out.setCell (p:=⟨gn,q,none⟩) (Nat.le_refl _) (.int .i64 v));refine⟨⟨q+1,l++[x],rfl,by omega,?_,by simp[hl],HH.out,HB7.out⟩,by show 3 - ((q:Int)+1).toNat<3 - (q:Int).toNat;omega⟩;rw[HT.out,List.mapM_append,HM.out];show (do let b ←[bl pq].mapM Tt.pnC;pure (l++b))=_;rw[List.mapM_cons,HX.out];rfl
end Go.Proofs.YtiimlopcifljeaaGreatDoor.Cn
/- Lines of `step`:which of them are commands. Plain. -/
namespace Go.Proofs.YtiimlopcifljeaaGreatDoor.Tt
def stB:Bs:=[115,116,101,112]
theorem no32_dg (n:Nat):(32:UInt8) ∉ dg n:=fun h=>by have:=(dg_no h).1;simp at this
theorem no32_st:(32:UInt8) ∉ stB:=by decide
theorem ref_jn (w:List Bs) (hw:w≠[]) (hno:∀ a∈w,(32:UInt8) ∉ a):refCmd (jn 32 w)=match cwL.findIdx? (fun p=>p.1=w.headD []) with
 |none=>none
 |some i=>if w.tail.length≠(cwL.getD i ([],0)).2 then none else (w.tail.mapM n9).map fun l=>(i+1,l):=by
 unfold refCmd
 rw[sp_jn hw hno]
 rfl
theorem ref_st (t:List Bs) (hno:∀ a∈t,(32:UInt8) ∉ a):refCmd (jn 32 (stB::t))=if t.length≠2 then none else (t.mapM n9).map fun l=>(16,l):=by
 have := ref_jn (stB :: t) (by simp) (fun a ha => by
   rcases List.mem_cons.1 ha with rfl|ha
   · exact no32_st
   · exact hno a ha)
 rw[this]
 have e:cwL.findIdx? (fun p=>p.1=(stB::t).headD [])=some 15:=by
  show cwL.findIdx? (fun p=>p.1=stB)=some 15
  decide
 rw[e]
 rfl
theorem mem2 {p:Bs→Prop} {a b:Bs} (ha:p a) (hb:p b):∀ x∈[a,b],p x:=by
 intro x hx
 simp at hx
 rcases hx with rfl|rfl
 · exact ha
 · exact hb
theorem n9_a {a:Nat} (ha:a<8):n9 (dg a)=some a:=n9_dg (Nat.le_trans (dg_len 0 a (by omega)) (by omega))
theorem n9_n {n:Nat} (hn:n<1000000000):n9 (dg n)=some n:=n9_dg (dg_len 8 n (by omega))
theorem ref_good {a n:Nat} (ha:a<8) (hn:n<1000000000):refCmd (jn 32 [stB,dg a,dg n])=some (16,[a,n]):=by
 rw[ref_st _ (mem2 (no32_dg a) (no32_dg n)),if_neg (by simp)]
 simp[List.mapM_cons,n9_a ha,n9_n hn]
theorem ref_two {a:Nat} (ha:a<8) {x:Bs} (hx:(32:UInt8) ∉ x) (h:n9 x=none):refCmd (jn 32 [stB,dg a,x])=none:=by
 rw[ref_st _ (mem2 (no32_dg a) hx),if_neg (by simp)]
 simp[List.mapM_cons,n9_a ha,h]
theorem n9_nought (n:Nat):n9 (48::dg n)=none:=by
 unfold n9
 rw[if_pos]
 refine .inr (.inr ⟨rfl,?_⟩)
 have:=List.length_pos_iff.2 (dg_ne n)
 simp only[List.length_cons]
 omega
theorem n9_minus (n:Nat):n9 (45::dg n)=none:=by
 unfold n9
 split
 · rfl
 · rw[if_neg]
   intro h
   have:=List.all_eq_true.1 h 45 List.mem_cons_self
   simp[isD] at this
theorem n9_ten:n9 [49,48,48,48,48,48,48,48,48,48]=none:=by decide
theorem ref_nought {a n : Nat} (ha : a < 8) : refCmd (jn 32 [stB, dg a, 48 :: dg n]) = none := ref_two ha (by
  intro h;rcases List.mem_cons.1 h with h|h
  · cases h
  · exact no32_dg n h) (n9_nought n)
theorem ref_minus {a n : Nat} (ha : a < 8) : refCmd (jn 32 [stB, dg a, 45 :: dg n]) = none := ref_two ha (by
  intro h;rcases List.mem_cons.1 h with h|h
  · cases h
  · exact no32_dg n h) (n9_minus n)
theorem ref_ten {a:Nat} (ha:a<8):refCmd (jn 32 [stB,dg a,[49,48,48,48,48,48,48,48,48,48]])=none:=ref_two ha (by decide) n9_ten
theorem ref_few (a:Nat):refCmd (jn 32 [stB,dg a])=none:=by
 rw[ref_st _ (fun x hx=>by obtain rfl:=List.mem_singleton.1 hx;exact no32_dg a),if_pos (by simp)]
theorem ref_many (t:List Bs) (hno:∀ a∈t,(32:UInt8) ∉ a) (h:t.length≠2):refCmd (jn 32 (stB::t))=none:=by
 rw[ref_st _ hno,if_pos h]
theorem mem3 {p:Bs→Prop} {a b c:Bs} (ha:p a) (hb:p b) (hc:p c):∀ x∈[a,b,c],p x:=by
 intro x hx
 simp at hx
 rcases hx with rfl|rfl|rfl
 · exact ha
 · exact hb
 · exact hc
theorem ref_one (a n:Nat):refCmd (jn 32 [stB,dg a,dg n,[49]])=none:=ref_many _ (mem3 (no32_dg a) (no32_dg n) (by decide)) (by simp)
theorem ref_gap (a n:Nat):refCmd (jn 32 [stB,[],dg a,dg n])=none:=ref_many _ (mem3 (by simp) (no32_dg a) (no32_dg n)) (by simp)
theorem ref_end (a n:Nat):refCmd (jn 32 [stB,dg a,dg n,[]])=none:=ref_many _ (mem3 (no32_dg a) (no32_dg n) (by simp)) (by simp)
theorem ref_ahead (a n:Nat):refCmd (jn 32 [[],stB,dg a,dg n])=none:=by
 rw [ref_jn _ (by simp) (fun x hx => by
   rcases List.mem_cons.1 hx with rfl|hx
   · simp
   · exact mem3 (p:=fun x=>(32:UInt8) ∉ x) no32_st (no32_dg a) (no32_dg n) x hx)]
 have e:cwL.findIdx? (fun p=>p.1=([[],stB,dg a,dg n]:List Bs).headD [])=none:=by
  show cwL.findIdx? (fun p=>p.1=[])=none
  decide
 rw[e]
end Go.Proofs.YtiimlopcifljeaaGreatDoor.Tt
namespace Go.Proofs.YtiimlopcifljeaaGreatDoor.Cn
open Go Go.ChangeShapes Go.WideShapes Go.ChangeAt Go.RowKit
set_option linter.unusedVariables false
set_option linter.unusedSimpArgs false
set_option maxRecDepth 100000
set_option maxHeartbeats 1600000
theorem maxlen_of {W:World} (h:W.ShapedOpen Tryz.prog):∃ m,W.cell? ⟨2,0,none⟩=some (.int .i64 m):=
 cell_of_shapedOpen_int (t:=3) (zero:=#[.int .i64 0]) (k:=.i64) h (of_decide_eq_true (by kernel_rfl)) (by kernel_rfl) rfl (by kernel_rfl) (by kernel_rfl) Tryz.underlying3
theorem err_of {W:World} {n:String} {d:DataW Unit} {t:TypeId} {cs:Array Value} {fuel:Nat} {nm:String} {p:List MemPlace} {ms:Array (String×TypeId)} (ht:Tryz.prog.underlying t=some (.interface ms)) (hv:W.var? Tryz.prog n=some cs)
 (hd:DataW.trod (fun _=>()) Tryz.prog W 0 (fun _=>true) false fuel t cs.toList=some (.iface nm d,p)):∃ tp q,W.var? Tryz.prog n=some #[.iface tp q]:=by
 obtain⟨f,u,v,e,_,_⟩:=iface_of_trod ht hd;refine⟨u,v,?_⟩;rw[hv];exact congrArg some (Array.toList_inj.1 e)
theorem libV_of {W:World} (h:laidMetH Tryz.prog Rows.consoleParsesRow.laid W) (hsh:W.ShapedOpen Tryz.prog):LibV W:=by
 rw[MakeChecks.laidMetH_plain _ _ _ (by kernel_rfl)] at h;obtain⟨ps,h1,_,_⟩:=h;obtain⟨_,_,_,_,_,_,_,_,_,_,h2,_⟩:=h1;obtain⟨_,_,_,_,_,_,_,_,_,_,h3,_⟩:=h2;obtain⟨g3,t3,c3,f3,p3,_,hg3,ht3,hv3,hd3,h4,_⟩:=h3;obtain⟨_,_,_,_,_,_,_,_,_,_,h5,_⟩:=h4;obtain⟨g5,t5,c5,f5,p5,_,hg5,ht5,hv5,hd5,h6,_⟩:=h5;obtain⟨g6,t6,c6,f6,p6,_,hg6,ht6,hv6,hd6,h7,_⟩:=h6;refine⟨maxlen_of hsh,?_,?_,?_⟩
 · obtain rfl := Option.some.inj ((show Tryz.prog.globalNamed "strconv.ErrSyntax" = some 0 by kernel_rfl).symm.trans hg6)
   obtain rfl:=Option.some.inj ((show (Tryz.prog.globals[0]?).map (·.type)=some 48 by kernel_rfl).symm.trans ht6);exact err_of Tryz.underlying48 hv6 hd6
 · obtain rfl := Option.some.inj ((show Tryz.prog.globalNamed "strconv.ErrRange" = some 1 by kernel_rfl).symm.trans hg5)
   obtain rfl:=Option.some.inj ((show (Tryz.prog.globals[1]?).map (·.type)=some 48 by kernel_rfl).symm.trans ht5);exact err_of Tryz.underlying48 hv5 hd5
 · obtain rfl := Option.some.inj ((show Tryz.prog.globalNamed "internal/strconv.uint64pow10" = some 3 by kernel_rfl).symm.trans hg3)
   obtain rfl:=Option.some.inj ((show (Tryz.prog.globals[3]?).map (·.type)=some 267 by kernel_rfl).symm.trans ht3);have hd:DataW.trod (fun _=>()) Tryz.prog W 0 (fun _=>true) false f3 267 c3.toList=some (Lib.tabData .u64 Lib.pow10Tab,p3):=hd3;have e:=Lib.cells_of_tab Tryz.underlying267 Tryz.underlying33 (by kernel_rfl) (by kernel_rfl) hd;show W.var? _ _=_;rw[hv3];exact congrArg some (Array.toList_inj.1 (by rw[e]))
variable {H:Type} {enc:TypeId×Value→H}
theorem handed_laid_shaped {a:Assume} {C:Checked} {os:Os} {f:FuncId} {fn:Func} {s:ChangeSpec} {conds:List PathCond} {apart fresh handsOn again:Bool} {X:World→Array Value→Prop}
 (hX:∀ (w w':World) (args:Array Value),w.heap=w'.heap→X w args→X w' args)
 (own:ownKnob C.prog.godebug=none) (started:os.Started) (noInit:C.prog.inits.idxOf? f=none) (hfn:C.prog.funcs[f]? =some fn)
 (witness : ∃ (w : World) (tape : Tape) (i : Input), w.os = os ∧ (w.forCall tape i).Shaped C.prog ∧ i.vars = [] ∧ Input.okWide C.prog (w.forCall tape i) .any w.heap.size f i ∧
   ((s.pre enc C.prog fn conds apart (w.forCall tape i).memory i.args∧X (w.forCall tape i).memory i.args)∧sizedMet enc C.prog fn (OpenSpec.ofChange s) apart (w.forCall tape i).memory i.args)∧a.holds C.prog (lone (Frame.enter C.prog f i.args .normal) [] (w.forCall tape i)))
 (contract : ∀ (W : World) (base : Nat) (args : Array Value) (ds gs : List (DataW H)) (before : List MemPlace),
   (∀ (j:Nat) t v,fn.params[j]? =some t→args[j]? =some v→Value.okWide C.prog W .any base t v)→
   DataW.Whole enc C.prog fn.params.toList s.vars apart W args.toList ds gs before→X W args→W.ShapedOpen C.prog→
   Calls C.prog f args W fun e W'=>∃ v,e=.returned v∧s.post enc C.prog fn apart fresh handsOn again W args v W'):
 ReturnsInHanded a C os f .any (fun w args=>(s.pre enc C.prog fn conds apart w args∧X w args)∧sizedMet enc C.prog fn (OpenSpec.ofChange s) apart w args) (s.post enc C.prog fn apart fresh handsOn again):=by
 refine returnsInHanded_of_calls own started noInit witness ?_;rintro w tape i _ hsh _ ⟨_,_,_,fn',hfn',_,_,_,_,hval⟩ ⟨⟨⟨ds,gs,before,hw,_⟩,hx⟩,_⟩ _;obtain rfl:fn'=fn:=Option.some.inj (hfn'.symm.trans hfn);refine (contract (w.forCall tape i) w.heap.size i.args ds gs before hval (DataW.Whole.of_heap (w':=w.forCall tape i) (by rfl) hw) (hX _ _ _ (by rfl) hx) hsh).mono ?_;rintro e W' ⟨v,rfl,hp⟩;exact ChangeSpec.post_blind hp
end Go.Proofs.YtiimlopcifljeaaGreatDoor.Cn
