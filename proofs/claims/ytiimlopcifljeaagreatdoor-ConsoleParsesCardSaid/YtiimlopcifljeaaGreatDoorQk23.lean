import Derived.Shelf.Abstract
import Derived.Shelf.RegionOpen
import Derived.OwnWalkIn
import Derived.TacticsInMore
import Derived.LoopNIn
import Derived.LoopIn
import Derived.Test.YtiimlopcifljeaaGreatDoorIdx
import Derived.Test.YtiimlopcifljeaaGreatDoorQk14
import Derived.Test.YtiimlopcifljeaaGreatDoorQk21
import Derived.Lib.AppendStr
namespace Go.Proofs.YtiimlopcifljeaaGreatDoor.Cn
open Go.ChangeShapes Go.WideShapes Go.ChangeAt Go.RowKit Go.Shelf
set_option linter.unusedVariables false
set_option linter.unusedSimpArgs false
set_option maxRecDepth 100000
set_option maxHeartbeats 1600000
def left1 (bs:Nat) (w:World):Nat:=match w.cell? ⟨bs,0,none⟩ with|some (.string s)=>s.size|_=>0
theorem seq1_in (m l bp bs bv N:Nat) (S X:Nat→ByteArray) (i:Nat→Nat) (J:ByteArray→Nat→World→Prop)
 (hi:∀ k,k<N→Lib.indexByte (S k).data.toList 10=(i k:Int)∧i k+1≤(S k).size∧(S k).size<100000∧(S k).extract 0 (i k)=X k∧(S k).extract (i k+1) (S k).size=S (k+1)∧(S (k+1)).size<(S k).size)
 (hl:Lib.indexByte (S N).data.toList 10=-1)
 (hJ:∀ s k W,J s k W→W.cell? ⟨bs,0,none⟩=some (.string s)∧W.frozen? ⟨bs,0,none⟩=false∧W.cell? ⟨bp,0,none⟩=some (.string ⟨#[10]⟩)∧W.cell? ⟨bv,0,none⟩=some (.int .i64 0))
 (hset:∀ s s' k W,J s k W→J s' k (W.setCell ⟨bs,0,none⟩ (.string s')))
 (hY:∀ k W,k<N→J (S k) k W→YieldAt Fence.wide (m - 1) Tryz.prog l #[.string (X k)] W fun e W'=>e=.returned (.bool true)∧J (S k) (k+1) W')
 (hZ:∀ W,J (S N) N W→YieldAt Fence.wide (m - 1) Tryz.prog l #[.string (S N)] W fun e W'=>e=.returned (.bool true)∧J (S N) (N+1) W')
 (W:World) (h0:J (S 0) 0 W):
 CallsIn Fence.wide m Tryz.prog 61 #[.func (.yield l) #[] #[],.pointer (some ⟨bp,0,none⟩),.pointer (some ⟨bs,0,none⟩),.pointer (some ⟨bv,0,none⟩)] W fun e W'=>(∃ v,e=.returned v)∧J (S N) (N+1) W':=by
 refine callsIn_of_wp Tryz.func61 rfl trivial ?_ rfl;simp only[Tryz.ntmps61,List.size_toArray,List.length_cons,List.length_nil,Nat.reduceAdd,Nat.reduceSub,Array.replicate_succ,Array.replicate_zero,List.push_toArray,List.append_toArray,List.nil_append,List.cons_append];obtain⟨c1,c2,c3,c4⟩:=hJ _ _ _ h0
 gi_wp2
 clear c1 c2 c3 c4;have HX:∀ s w,CallsIn Fence.wide (m - 1) Tryz.prog 50 #[.string s,.string ⟨#[10]⟩] w fun e w'=>e=.returned (.int .i64 (Lib.indexByte s.data.toList 10))∧w'=w:=fun s w=>callsIn_wide.2 (Tryz.strings_Index_one s 10 w)
 gi_loopw [7] (fun p wr=>∃ k,k≤N∧J (S k) k wr) (fun p wr=>left1 bs wr)
 case atStart=>exact⟨0,Nat.zero_le _,h0⟩
 case round=>
  obtain⟨k,hk,hJk⟩:=hrel;obtain⟨c1,c2,c3,c4⟩:=hJ _ _ _ hJk
  by_cases hkN:k<N
  · obtain⟨i1,i2,i3,i4,i5,i6⟩:=hi k hkN
    gi_wp2
    refine⟨trivial,fun h=>(by cases h),?_⟩;refine (HX _ _).mono ?_;rintro e w' ⟨rfl,rfl⟩;rw[i1];obtain⟨fn,tmps,assign,body,hy,hR⟩:=hY k w' hkN hJk;have b1:¬ (i k:Int)<0:=by omega
    have b2:((i k:Int)<0:Bool)=false:=by simp
    gi_wp2
    refine⟨fun h=>(by cases h),hR.mono ?_⟩;rintro e W3 ⟨rfl,hJ3⟩;obtain⟨d1,d2,d3,d4⟩:=hJ _ _ _ hJ3;have hJ4:=hset _ (S (k+1)) _ _ hJ3;have b3:IntKind.i64.wrap ((i k:Int)+1)=((i k+1:Nat):Int):=by rw[IntKind.wrap_i64];omega
    gi_wp2
    go_roundw
    case rel=>exact⟨k+1,hkN,hJ4⟩
    case measure=>
     have e1:=(hJ _ _ _ hJ4).1;unfold left1;rw[e1,c1];exact i6
  · obtain rfl:k=N:=by omega
    gi_wp2
    refine⟨trivial,fun h=>(by cases h),?_⟩;refine (HX _ _).mono ?_;rintro e w' ⟨rfl,rfl⟩;rw[hl];obtain⟨fn,tmps,assign,body,hy,hR⟩:=hZ w' hJk
    gi_wp2
    refine⟨fun h=>(by cases h),hR.mono ?_⟩;rintro e W3 ⟨rfl,hJ3⟩
    gi_wp2
    go_end0
    exact⟨⟨_,rfl⟩,hJ3⟩
def awS (k:Nat):ByteArray:=[⟨#[98,101,103,105,110,32,48,32,51,10,105,110,115,101,114,116,32,48,32,53,32,55,10,10,99,111,109,109,105,116,32,48,10,112,97,105,114,115,10,122,122,10]⟩,⟨#[105,110,115,101,114,116,32,48,32,53,32,55,10,10,99,111,109,109,105,116,32,48,10,112,97,105,114,115,10,122,122,10]⟩,⟨#[10,99,111,109,109,105,116,32,48,10,112,97,105,114,115,10,122,122,10]⟩,⟨#[99,111,109,109,105,116,32,48,10,112,97,105,114,115,10,122,122,10]⟩,⟨#[112,97,105,114,115,10,122,122,10]⟩,⟨#[122,122,10]⟩,⟨#[]⟩].getD k ⟨#[]⟩
def awX (k:Nat):ByteArray:=[⟨#[98,101,103,105,110,32,48,32,51]⟩,⟨#[105,110,115,101,114,116,32,48,32,53,32,55]⟩,⟨#[]⟩,⟨#[99,111,109,109,105,116,32,48]⟩,⟨#[112,97,105,114,115]⟩,⟨#[122,122]⟩].getD k ⟨#[]⟩
def awI (k:Nat):Nat:=[9,12,0,8,5,2].getD k 0
theorem aw_parts:∀ k,k<6→Lib.indexByte (awS k).data.toList 10=(awI k:Int)∧awI k+1≤(awS k).size∧(awS k).size<100000∧(awS k).extract 0 (awI k)=awX k∧(awS k).extract (awI k+1) (awS k).size=awS (k+1)∧(awS (k+1)).size<(awS k).size:=by
 decide +kernel
theorem aw_last:Lib.indexByte (awS 6).data.toList 10=-1:=by decide +kernel
theorem splitseq_any (s:ByteArray) (w:World):Calls Tryz.prog 22 #[.string s,.string ⟨#[10]⟩] w fun e w'=>e=.returned (.func (.func 61) #[] #[.pointer (some ⟨w.heap.size+1,0,none⟩),.pointer (some ⟨w.heap.size,0,none⟩),.pointer (some ⟨w.heap.size+2,0,none⟩)])∧w'=((w.alloc (.cells #[.string s] 9)).alloc (.cells #[.string ⟨#[10]⟩] 9)).alloc (.cells #[.int .i64 0] 3):=by
 go_enter Tryz.func22,Tryz.ntmps22;go_wp2;go_ret;exact⟨rfl,rfl⟩
end Go.Proofs.YtiimlopcifljeaaGreatDoor.Cn
namespace Go.Proofs.YtiimlopcifljeaaGreatDoor.Em
open Go.ChangeShapes Go.WideShapes Go.ChangeAt Go.RowKit En
set_option linter.unusedVariables false
set_option linter.unusedSimpArgs false
set_option maxRecDepth 100000
set_option maxHeartbeats 1600000
structure ETs (b:Nat) (w0:World) (gs:List (Nat×Obj)) (σ:St) (w:World):Prop where
 ex:∃ A:Book,A.be=b∧Live A σ w∧Grow (fun _=>none) w0 A.L w∧∀ p∈gs,(A.L p.1=some .tmp∧w.heap[p.1]? =some p.2)∧w0.heap.size≤p.1
theorem EKt.ts {b:Nat} {w0 w:World} {σ:St} {ks:List Kept} (h:EKt b w0 ks σ w):ETs b w0 [] σ w:=let ⟨A,e,l,g,_⟩:=h.ex;⟨A,e,l,g,fun p hp=>by cases hp⟩
theorem ETs.size {b:Nat} {w0 w:World} {σ:St} {gs:List (Nat×Obj)} (h:ETs b w0 gs σ w):w0.heap.size≤w.heap.size:=let ⟨_,_,_,g,_⟩:=h.ex;g.size
theorem ETs.new {b:Nat} {w0 w:World} {σ:St} {gs:List (Nat×Obj)} (h:ETs b w0 gs σ w) (o:Obj):ETs b w0 ((w.heap.size,o)::gs) σ (w.alloc o):=by
 obtain⟨A,e,l,g,t⟩:=h.ex;obtain⟨_,g1,t1,t2⟩:=l.rep.newTmp o;refine⟨A.tmp w.heap.size,e,l.newTmp o,g.trans g1,fun p hp=>?_⟩
 rcases List.mem_cons.1 hp with rfl|hp
 · exact⟨⟨t1,t2⟩,g.size⟩
 · exact⟨tmp_grow (t p hp).1 g1,(t p hp).2⟩
theorem ETs.below {b:Nat} {w0 w w':World} {σ:St} {gs:List (Nat×Obj)} (h:ETs b w0 gs σ w) (hb:Below w.heap.size w w'):ETs b w0 gs σ w':=by
 obtain⟨A,e,l,g,t⟩:=h.ex;exact⟨A,e,l.below hb,g.trans (Grow.below hb),fun p hp=>⟨⟨(t p hp).1.1,(hb.block p.1 (lt_of (t p hp).1.2)).trans (t p hp).1.2⟩,(t p hp).2⟩⟩
theorem ETs.drew {b:Nat} {w0 w:World} {σ:St} {gs:List (Nat×Obj)} (h:ETs b w0 gs σ w):ETs b w0 gs σ w.drew:=h.below (Below.refl _ _).drew
theorem ETs.alloc {b:Nat} {w0 w:World} {σ:St} {gs:List (Nat×Obj)} (h:ETs b w0 gs σ w) (o:Obj):ETs b w0 gs σ (w.alloc o):=h.below ((Below.refl _ _).alloc (Nat.le_refl _) o)
theorem ETs.obj {b:Nat} {w0 w:World} {σ:St} {gs:List (Nat×Obj)} (h:ETs b w0 gs σ w) {g:Nat} {o:Obj} (hm:(g,o)∈gs):w.heap[g]? =some o:=let ⟨_,_,_,_,t⟩:=h.ex;(t _ hm).1.2
theorem ETs.put {b:Nat} {w0 w w':World} {σ:St} {gs gs':List (Nat×Obj)} (h:ETs b w0 gs σ w) {g:Nat} {o o':Obj} (hm:(g,o)∈gs) (hb:But g w w') (ho:w'.heap[g]? =some o') (hgs:∀ p∈gs',p=(g,o')∨(p.1≠g∧p∈gs)):ETs b w0 gs' σ w':=by
 obtain⟨A,e,l,gr,t⟩:=h.ex;have tg:=t _ hm;refine⟨A,e,l.but tg.1.1 hb,gr.but tg.2 hb,fun p hp=>?_⟩
 rcases hgs p hp with rfl|⟨hne,hp⟩
 · exact⟨⟨tg.1.1,ho⟩,tg.2⟩
 · exact⟨⟨(t p hp).1.1,(hb.block p.1 hne).trans (t p hp).1.2⟩,(t p hp).2⟩
theorem begin_ts {b:Nat} {w0 w:World} {gs:List (Nat×Obj)} {σ σ1:St} (h:ETs b w0 gs σ w) {s level id:Nat} (hs:s<8) (hr:beginOk σ s level=some (σ1,id)):
 Calls Tryz.prog 36 #[.pointer (some ⟨b,0,none⟩),zi (s:Int),zi (level:Int)] w fun e w'=>e=.returned (.tuple #[zi (id:Int),zi 0])∧ETs b w0 gs σ1 w':=by
 obtain⟨A,rfl,hL,g,t⟩:=h.ex;refine (begin_to hs hr A w hL).mono ?_;rintro e w' ⟨A',rfl,hL',g',e'⟩;exact⟨rfl,A',e',hL',g.trans g',fun p hp=>⟨tmp_grow (t p hp).1 g',(t p hp).2⟩⟩
theorem do_ts {b:Nat} {w0 w:World} {gs:List (Nat×Obj)} {σ σ1 σ2:St} (h:ETs b w0 gs σ w) {s F err:Nat} {o:En.Op} {r:Res} (hs:s<8) (hi:issueOk σ s o=some σ1) (hF:F≤13824000) (hr:runDo F σ1 s=some (σ2,r,err)):
 Calls Tryz.prog 94 #[.pointer (some ⟨b,0,none⟩),zi (s:Int),.agg #[zi (o.kind:Int),zi (o.key:Int),zi (o.hi:Int),zi (o.value:Int)]] w (fun e w'=>∃ va vn vc,e=.returned (.tuple #[.agg #[zi (r.e:Int),zi (r.value:Int),.slice va vn vc,zi (r.over:Int),zi (r.reason:Int)],zi (err:Int)])∧ETs b w0 gs σ2 w'):=by
 obtain⟨A,rfl,hL,g,t⟩:=h.ex;refine (do_any hL s hs o σ1 (issue_to hs hi) F hF σ2 r err hr).mono ?_;rintro e w' ⟨A',vp,rfl,hf,hL',g',e'⟩;obtain⟨va,vn,vc,rfl⟩:=frow_form hf;exact⟨va,vn,vc,rfl,A',e',hL',g.trans g',fun p hp=>⟨tmp_grow (t p hp).1 g',(t p hp).2⟩⟩
theorem row_low {w:World} {base size:Nat} {v:Value} {xs:List Value} (h:Ow.Row w base size v xs):Ow.Row w 0 size v xs:=by
 obtain⟨a,n,c,e,h1,h2,h3,h4⟩:=h;refine⟨a,n,c,e,h1,h2,h3,?_⟩
 rcases h4 with h4|⟨g,off,e1,_,e3,e4⟩
 · exact .inl h4
 · exact .inr ⟨g,off,e1,Nat.zero_le _,e3,e4⟩
theorem pairs_ts {b:Nat} {w0 w:World} {gs:List (Nat×Obj)} {σ:St} (h:ETs b w0 gs σ w) (hok:okPairs σ=true):
 Calls Tryz.prog 42 #[.pointer (some ⟨b,0,none⟩)] w (fun e w'=>∃ av cap,e=.returned (.slice av σ.pairs.length cap)∧Ow.Row w' 0 2 (.slice av σ.pairs.length cap) (pairCs σ.pairs)∧ETs b w0 gs σ w'):=by
 obtain⟨A,rfl,hL,g,t⟩:=h.ex;refine (pairs_any hL.rep hok).mono ?_;rintro e w' ⟨av,cap,rfl,ho,hb⟩;exact⟨av,cap,rfl,row_low (own_row ho),ETs.below ⟨A,rfl,hL,g,t⟩ hb⟩
theorem new_ts (n l:Nat) (h1:1≤n) (h2:n≤256) (h3:1≤l) (h4:l≤1099511627776) (w:World):
 Calls Tryz.prog 30 #[.agg #[zi (n:Int),zu (l:Int)]] w fun e w'=>∃ b,e=.returned (.tuple #[.pointer (some ⟨b,0,none⟩),zi 0])∧ETs b w [] (new n l) w':=by
 refine (new_at n l h1 h2 h3 h4 w).mono ?_;rintro e w' ⟨b,rfl,q⟩;exact⟨b,rfl,q.kt.ts⟩
end Go.Proofs.YtiimlopcifljeaaGreatDoor.Em
namespace Go.Proofs.YtiimlopcifljeaaGreatDoor.Cn
open Em En
set_option linter.unusedVariables false
set_option linter.unusedSimpArgs false
set_option maxRecDepth 100000
set_option maxHeartbeats 1600000
def opI:En.Op:=⟨2,5,0,7⟩
def opC:En.Op:=⟨6,0,0,0⟩
def runF:Nat:=1000
def chkRun:Bool:=
 match beginOk (En.new 60 500) 0 3 with
 |none=>false
 |some (σ1,id)=>id==1&&match issueOk σ1 0 opI with
  |none=>false
  |some σ2=>match runDo runF σ2 0 with
   |none=>false
   |some (σ3,r,er)=>er==0&&r.e==0&&match issueOk σ3 0 opC with
    |none=>false
    |some σ4=>match runDo runF σ4 0 with
     |none=>false
     |some (σ5,r',er')=>er'==0&&r'.e==0&&okPairs σ5&&σ5.pairs==[(5,7)]
theorem chk_run:chkRun=true:=by decide +kernel
theorem run_57:∃ σ1 σ2 σ3 r σ4 σ5 r',beginOk (En.new 60 500) 0 3=some (σ1,1)∧issueOk σ1 0 opI=some σ2∧runDo runF σ2 0=some (σ3,r,0)∧r.e=0∧issueOk σ3 0 opC=some σ4∧runDo runF σ4 0=some (σ5,r',0)∧r'.e=0∧okPairs σ5=true∧σ5.pairs=[(5,7)]:=by
 have h:=chk_run;unfold chkRun at h
 split at h
 · cases h
 · rename_i σ1 id h1
   rw[Bool.and_eq_true] at h;obtain⟨hi,h⟩:=h
   split at h
   · cases h
   · rename_i σ2 h2
     split at h
     · cases h
     · rename_i σ3 r er h3
       simp only[Bool.and_eq_true] at h;obtain⟨⟨he,hr⟩,h⟩:=h
       split at h
       · cases h
       · rename_i σ4 h4
         split at h
         · cases h
         · rename_i σ5 r' er' h5
           simp only[Bool.and_eq_true] at h;obtain⟨⟨⟨he',hr'⟩,ho⟩,hp⟩:=h;obtain rfl:=eq_of_beq hi;obtain rfl:=eq_of_beq he;obtain rfl:=eq_of_beq he';exact⟨σ1,σ2,σ3,r,σ4,σ5,r',h1,h2,h3,eq_of_beq hr,h4,h5,eq_of_beq hr',ho,eq_of_beq hp⟩
end Go.Proofs.YtiimlopcifljeaaGreatDoor.Cn
namespace Go.Proofs.YtiimlopcifljeaaGreatDoor.Em
open Go.ChangeShapes Go.WideShapes Go.ChangeAt Go.RowKit En
set_option linter.unusedVariables false
set_option linter.unusedSimpArgs false
set_option maxRecDepth 100000
set_option maxHeartbeats 1600000
theorem ets_append {b:Nat} {w0 w w':World} {σ:St} {gs gs':List (Nat×Obj)} {v v':Value} {base:Nat} {e:TypeId} {size n:Nat} {xs:List Value}
 (h:ETs b w0 gs σ w) (hv:∀ g,v.ownBlock=some g→∃ o,(g,o)∈gs) (hown:w'.ownsRow base e size v' (n+1) xs) (hg:w.grownBy w' v.ownBlock) (h3:v'.ownBlock=v.ownBlock∨∀ g,v'.ownBlock=some g→w.heap.size≤g)
 (hgs:∀ p∈gs',p∈gs∧some p.1≠v.ownBlock):
 ∃ g cap o,v'=.slice (some ⟨g,0,none⟩) (n+1) cap∧ETs b w0 ((g,o)::gs') σ w':=by
 obtain⟨A,e1,l,gr,t⟩:=h.ex;have hT:TmpRow A.L v:=fun g hg'=>by obtain⟨o,ho⟩:=hv g hg';exact (t _ ho).1.1
 obtain⟨L',r,hT'⟩:=append_tmp l hT hown hg h3;have hlow:∀ g,v.ownBlock=some g→w0.heap.size≤g:=fun g hg'=>by obtain⟨o,ho⟩:=hv g hg';exact (t _ ho).2
 rcases hown.2 with ⟨_,hn⟩|⟨g,cap,cur,hv',h2,h4,h5⟩
 · cases hn
 have hob:v'.ownBlock=some g:=by rw[hv'];rfl
 refine⟨g,cap,.cells cur e,hv',⟨{A with L:=L'},e1,l.rown r,gr.rown r hlow,fun p hp=>?_⟩⟩
 rcases List.mem_cons.1 hp with rfl|hp
 · refine⟨⟨hT' g hob,h4⟩,?_⟩
   rcases h3 with h3|h3
   · exact hlow g (h3.symm.trans hob)
   · exact Nat.le_trans gr.size (h3 g hob)
 · obtain⟨hm,hne⟩:=hgs p hp
   have hlt:=lt_of (t p hm).1.2;exact⟨⟨(r.lab p.1 hlt).trans (t p hm).1.1,(r.block p.1 hlt hne).trans (t p hm).1.2⟩,(t p hm).2⟩
end Go.Proofs.YtiimlopcifljeaaGreatDoor.Em
namespace Go.Proofs.YtiimlopcifljeaaGreatDoor.Em
open Go.ChangeShapes Go.WideShapes Go.ChangeAt Go.RowKit
set_option linter.unusedVariables false
set_option linter.unusedSimpArgs false
set_option maxRecDepth 100000
set_option maxHeartbeats 1600000
theorem append_str_where {P:Program} (w:World) (base:Nat) (t u ty e:TypeId) (i:TypeInfo) (ht:P.underlying t=some (.slice e)) (hu:P.underlying u=some .string) (hi:P.info? e=some i) (hz:i.zero=some (.int .u8 0))
 (hsize:i.size=1) (hby:i.bytes=1) (v:Value) (n:Nat) (xs:List Value) (hown:w.ownsRow base e 1 v n xs) (s:ByteArray) (hb:n+s.size≤100000)
 {v':Value} {w':World} (hr:(Builtin.append_ #[t,u] ty #[v,.string s]).run P w=.ok v' w'):v'.ownBlock=v.ownBlock∨∀ g,v'.ownBlock=some g→w.heap.size≤g:=by
 have hm:n+s.size≤maxLen:=by unfold maxLen;omega
 have hxl:xs.length=n:=by simpa using hown.1
 rcases hown.2 with ⟨rfl,rfl⟩|⟨g,cap,cur,rfl,hbg,hg,hnc,hcm,hcs,htake⟩
 · have h0:w.ownsRow w.heap.size e 1 (.slice none 0 0) 0 xs:=⟨hown.1,.inl ⟨rfl,rfl⟩⟩
   obtain⟨v2,w2,hr2,ho2,_⟩:=Lib.run_append_own_string (P:=P) w w.heap.size t u ty e i ht hu hi hz hsize hby _ 0 xs h0 s hm (by omega) (Nat.le_refl _);rw[hr] at hr2
   cases hr2
   exact .inr fun g hg=>(ho2.lt g hg).1
 · by_cases hroom:n+s.size≤cap
   · have hcs':cur.size=cap:=by simpa using hcs
     rw[Lib.run_append_room_string (P:=P) w t u ty e i ht hu hi hsize g n cap cur hg s hroom (by omega)] at hr
     cases hr
     exact .inl rfl
   · have holds:∀ j u,xs[j]? =some u→w.cell? ((⟨g,0,none⟩:Addr).add j)=some u:=hown.cells (g:=g) rfl
     rw[Lib.run_append_grow_string (P:=P) w t u ty e i (.int .u8 0) ht hu hi hz ⟨g,0,none⟩ n cap xs (by rw[hsize];simpa using hxl) holds s (by omega) (by omega) (by rw[hby];exact growslice_fits (by omega) (by omega))] at hr
     cases hr
     exact .inr fun k hk=>by cases hk;exact Nat.le_refl _
theorem wpList_append_str {P:Program} (w:World) {ops:Array Oper} {rest:List Oper} {o:Oper} {a:Act} {Q:Exit→Act→World→Prop} (hgd:o.guard=none) (sl x:Operand) (t u:TypeId)
 (ho:o.op=.call {callee:=.builtin .append,args:=#[sl,x],argTypes:=#[t,u]})
 (base:Nat) (e:TypeId) (i:TypeInfo) (ht:P.underlying t=some (.slice e)) (hu:P.underlying u=some .string) (hi:P.info? e=some i) (hz:i.zero=some (.int .u8 0))
 (hsize:i.size=1) (hby:i.bytes=1)
 (v:Value) (n:Nat) (xs:List Value) (hs:a.eval sl=v) (hown:w.ownsRow base e 1 v n xs) (s:ByteArray) (hx:a.eval x=.string s)
 (hb:n+s.size≤100000) (hbase:base≤w.heap.size)
 (h:∀ v' w',w'.ownsRow base e 1 v' (n+s.size) (xs++Lib.strCells s)→w.grownBy w' v.ownBlock→(v'.ownBlock=v.ownBlock∨∀ g,v'.ownBlock=some g→w.heap.size≤g)→wpList P ops Q rest (a.put o.dst v') w'):wpList P ops Q (o::rest) a w:=by
 refine wpList_plain hgd fun K hK=>?_
 obtain⟨v',w',hr,h2,h3,_⟩:=Lib.run_append_own_string (P:=P) w base t u o.type e i ht hu hi hz hsize hby v n xs hown s (by unfold maxLen;omega) (by omega) hbase;have h4:=append_str_where w base t u o.type e i ht hu hi hz hsize hby v n xs hown s hb hr;unfold Oper.wp execOp;simp only[ho,resolve,invoke,builtin,Sem.run_bind,Sem.run_pure,Result.andThen_ok,List.map_toArray,List.map_cons,List.map_nil,hs,hx,hr];exact hK _ _ (h v' w' h2 h3 h4)
end Go.Proofs.YtiimlopcifljeaaGreatDoor.Em
namespace Go.Proofs.YtiimlopcifljeaaGreatDoor.Em
open Go.ChangeShapes Go.WideShapes Go.ChangeAt Go.RowKit En
set_option linter.unusedVariables false
set_option linter.unusedSimpArgs false
set_option maxRecDepth 100000
set_option maxHeartbeats 1600000
theorem copy_first (bb:Nat) (v:Value) (w:World) (h:w.heap[bb]? =some (.cells #[.pointer none,v] 77)):Calls Tryz.prog 34 #[.pointer (some ⟨bb,0,none⟩)] w fun e w'=>e=.returned (.tuple #[])∧w'=w.setCell ⟨bb,0,none⟩ (.pointer (some ⟨bb,0,none⟩)):=by
 have c0:w.cell? ⟨bb,0,none⟩=some (.pointer none):=by rw[cell_of_row _ _ _ _ _ _ h];rfl
 have f0:w.frozen? ⟨bb,0,none⟩=false:=frozen_of_row _ _ _ _ _ h;obtain⟨j,hj,hjs⟩:=Option.map_eq_some_iff.1 (show (Tryz.prog.info? 77).map (fun i=>i.size)=some 2 by kernel_rfl);have hsh:w.shape? bb=some (77,2):=by simp[World.shape?,h]
 clear h;go_enter Tryz.func34,Tryz.ntmps34;go_wp2;rw[Lib.run_to_unsafe w ⟨bb,0,none⟩ Tryz.underlying75 Tryz.underlying136 hj (by rw[hjs];decide) hsh (Nat.zero_lt_succ 1)];simp only[Result.andThen];rw[Oper.upon_value];go_wp2;rw[run_callFunc_extern Tryz.func63 (by kernel_rfl) (by kernel_rfl) (by kernel_rfl) (e:=Extern.AbiNoEscape.same) (by kernel_rfl)];rw[Lib.run_noEscape];simp only[Result.andThen];rw[Oper.upon_value];go_wp2;rw[Lib.run_from_unsafe w ⟨bb,0,none⟩ Tryz.underlying136 Tryz.underlying75 hj hsh (by kernel_rfl)];simp only[Result.andThen];rw[Oper.upon_value];go_wp2
 go_end0
 exact⟨rfl,rfl⟩
theorem copy_again (bb:Nat) (v:Value) (w:World) (h:w.heap[bb]? =some (.cells #[.pointer (some ⟨bb,0,none⟩),v] 77)):Calls Tryz.prog 34 #[.pointer (some ⟨bb,0,none⟩)] w fun e w'=>e=.returned (.tuple #[])∧w'=w:=by
 have c0:w.cell? ⟨bb,0,none⟩=some (.pointer (some ⟨bb,0,none⟩)):=by rw[cell_of_row _ _ _ _ _ _ h];rfl
 obtain⟨j,hj,_⟩:=Option.map_eq_some_iff.1 (show (Tryz.prog.info? 77).map (fun i=>i.size)=some 2 by kernel_rfl);clear h;go_enter Tryz.func34,Tryz.ntmps34;go_wp2;rw[Lib.run_neq_ptr_same w _ Tryz.underlying75 hj];go_wp2
 go_end0
 exact⟨rfl,rfl⟩
theorem bws_raw (B bb n:Nat) (v:Value) (xs:List Value) (s:ByteArray) (p0:Option Addr) (hp0:p0=none∨p0=some ⟨bb,0,none⟩) (w:World) (hbk:w.heap[bb]? =some (.cells #[.pointer p0,v] 77)) (hown:w.ownsRow B 5 1 v n xs) (hne:v.ownBlock≠some bb) (hlen:n+s.size≤100000) (hB:B≤w.heap.size):
 Calls Tryz.prog 23 #[.pointer (some ⟨bb,0,none⟩),.string s] w fun e w'=>e=.returned (.tuple #[zi s.size,.nilIface])∧∃ w1 w2 v',(w1=w∨w1=w.setCell ⟨bb,0,none⟩ (.pointer (some ⟨bb,0,none⟩)))∧w1.heap[bb]? =some (.cells #[.pointer (some ⟨bb,0,none⟩),v] 77)∧w2.ownsRow B 5 1 v' (n+s.size) (xs++Lib.strCells s)∧w1.grownBy w2 v.ownBlock∧(v'.ownBlock=v.ownBlock∨∀ g,v'.ownBlock=some g→w1.heap.size≤g)∧w'=w2.setCell ⟨bb,1,none⟩ v':=by
 obtain⟨i0,hi,hz0,hz1,hz2⟩:=info_parts (show (Tryz.prog.info? 5).map (fun i=>(i.zero,i.size,i.bytes))=some (some (.int .u8 0),1,1) by kernel_rfl);have HC:Calls Tryz.prog 34 #[.pointer (some ⟨bb,0,none⟩)] w fun e w'=>e=.returned (.tuple #[])∧(w'=w∨w'=w.setCell ⟨bb,0,none⟩ (.pointer (some ⟨bb,0,none⟩)))∧w'.heap[bb]? =some (.cells #[.pointer (some ⟨bb,0,none⟩),v] 77):=by
  rcases hp0 with rfl|rfl
  · refine (copy_first bb v w hbk).mono ?_
    rintro e w' ⟨rfl,rfl⟩;refine⟨rfl,.inr rfl,?_⟩;simp only[World.setCell,Array.getElem?_modify,hbk];simp
  · refine (copy_again bb v w hbk).mono ?_
    rintro e w' ⟨rfl,rfl⟩;exact⟨rfl,.inl rfl,hbk⟩
 have HS:∀ w',(w'=w∨w'=w.setCell ⟨bb,0,none⟩ (.pointer (some ⟨bb,0,none⟩)))→w'.ownsRow B 5 1 v n xs∧B≤w'.heap.size:=by
  rintro w' (rfl|rfl)
  · exact⟨hown,hB⟩
  · exact⟨own_same hown fun g hg=>Below.heap_setCell _ _ _ _ (by rintro rfl;exact hne hg),by simpa [World.setCell] using hB⟩
 clear hown hbk hB;go_enter Tryz.func23,Tryz.ntmps23;go_wp2_with (go_at_call 34;refine HC.mono ?_);rintro e w1 ⟨rfl,h1,hbk⟩;obtain⟨hown,hB⟩:=HS w1 h1;have c0:w1.cell? ⟨bb,0,none⟩=some (.pointer (some ⟨bb,0,none⟩)):=by rw[cell_of_row _ _ _ _ _ _ hbk];rfl
 have c1:w1.cell? ⟨bb,1,none⟩=some v:=by rw[cell_of_row _ _ _ _ _ _ hbk];rfl
 go_wp2_with (at_builtin;refine wpList_append_str _ rfl _ _ 42 9 rfl B 5 i0 Tryz.underlying42 Tryz.underlying9 hi hz0 hz1 hz2 _ _ _ rfl hown s rfl ?c3 ?c4 ?_)
 case c3=>omega
 case c4=>omega
 intro v' w2 hown' hgrow h3;have hlt:bb<w1.heap.size:=(Array.getElem?_eq_some_iff.1 hbk).1;have hb2:w2.heap[bb]? =some (.cells #[.pointer (some ⟨bb,0,none⟩),v] 77):=by
  rw[hgrow.block bb hlt (fun e=>hne e.symm)];exact hbk
 have d0:w2.cell? ⟨bb,0,none⟩=some (.pointer (some ⟨bb,0,none⟩)):=by rw[cell_of_row _ _ _ _ _ _ hb2];rfl
 have d1:w2.cell? ⟨bb,1,none⟩=some v:=by rw[cell_of_row _ _ _ _ _ _ hb2];rfl
 have f1:w2.frozen? ⟨bb,1,none⟩=false:=frozen_of_row _ _ _ _ _ hb2;obtain⟨ao,n',cap,rfl⟩:∃ ao n' cap,v'=.slice ao n' cap:=by
  rcases hown'.2 with ⟨hv,_⟩|⟨g,cap,cur,hv,_⟩
  · exact⟨_,_,_,hv⟩
  · exact⟨_,_,_,hv⟩
 go_wp2;refine bodyPost_ret (results_tmp2 rfl _ _ _) rfl ?_;exact⟨rfl,w1,w2,_,h1,hbk,by simpa [Lib.strCells_length] using hown',hgrow,h3,rfl⟩
theorem but_same (g:Nat) (w:World):But g w w:=⟨rfl,rfl,rfl,by first|exact rfl|exact Nat.le_refl _,fun _ _=>rfl⟩
theorem bws_ts {b:Nat} {w0 w:World} {σ:St} {gs rest:List (Nat×Obj)} {v:Value} {n m bb:Nat} {xs:List Value} {p0:Option Addr} (s:ByteArray) (h:ETs b w0 gs σ w) (hbb:(bb,.cells #[.pointer p0,v] 77)∈gs) (hp0:p0=none∨p0=some ⟨bb,0,none⟩)
 (hown:w.ownsRow w0.heap.size 5 1 v n xs) (hv:∀ g,v.ownBlock=some g→∃ o,(g,o)∈gs) (hne:v.ownBlock≠some bb) (hrest:∀ p∈rest,p∈gs∧p.1≠bb∧some p.1≠v.ownBlock) (hs:s.size=m+1) (hlen:n+s.size≤100000):
 Calls Tryz.prog 23 #[.pointer (some ⟨bb,0,none⟩),.string s] w fun e w'=>e=.returned (.tuple #[zi s.size,.nilIface])∧∃ g cap o,ETs b w0 ((bb,.cells #[.pointer (some ⟨bb,0,none⟩),.slice (some ⟨g,0,none⟩) (n+m+1) cap] 77)::(g,o)::rest) σ w'∧w'.ownsRow w0.heap.size 5 1 (.slice (some ⟨g,0,none⟩) (n+m+1) cap) (n+m+1) (xs++Lib.strCells s)∧g≠bb:=by
 refine (bws_raw w0.heap.size bb n v xs s p0 hp0 w (h.obj hbb) hown hne hlen h.size).mono ?_;rintro e w' ⟨rfl,w1,w2,v',h1,hb1,ho2,hg,h3,rfl⟩;refine⟨rfl,?_⟩;have hbut:But bb w w1:=by
  rcases h1 with rfl|rfl
  · exact but_same _ _
  · exact But.setCell w ⟨bb,0,none⟩ _
 have T1:ETs b w0 ((bb,.cells #[.pointer (some ⟨bb,0,none⟩),v] 77)::gs.filter (fun p=>decide (p.1≠bb))) σ w1:=by
  refine h.put hbb hbut hb1 fun p hp=>?_
  rcases List.mem_cons.1 hp with rfl|hp
  · exact .inl rfl
  · obtain⟨q1,q2⟩:=List.mem_filter.1 hp
    exact .inr ⟨by simpa using q2,q1⟩
 rw[hs,←Nat.add_assoc] at ho2
 obtain ⟨g, cap, o, rfl, T2⟩ := ets_append (n := n + m) (gs' := (bb, .cells #[.pointer (some ⟨bb, 0, none⟩), v] 77) :: rest) T1 (fun k hk => by
     obtain⟨o,ho⟩:=hv k hk
     exact ⟨o, List.mem_cons_of_mem _ (List.mem_filter.2 ⟨ho, by
       have:k≠bb:=by rintro rfl;exact hne hk
       simpa using this⟩)⟩) ho2 hg h3 (fun p hp=>by
     rcases List.mem_cons.1 hp with rfl|hp
     · exact⟨List.mem_cons_self,fun e=>hne e.symm⟩
     · obtain⟨q1,q2,q3⟩:=hrest p hp
       exact⟨List.mem_cons_of_mem _ (List.mem_filter.2 ⟨q1,by simpa using q2⟩),q3⟩)
 have hb2:=T2.obj (g:=bb) (List.mem_cons_of_mem _ List.mem_cons_self);have hgb:g≠bb:=by
  rintro rfl
  rcases ho2.2 with ⟨k,_⟩|⟨g',cap',cur,k,_,k2,_⟩
  · cases k
  · cases k
    rw[hb2] at k2
    cases k2
 refine⟨g,cap,o,?_,own_same ho2 fun k hk=>?_,hgb⟩
 · refine T2.put (g:=bb) (o':=.cells #[.pointer (some ⟨bb,0,none⟩),.slice (some ⟨g,0,none⟩) (n+m+1) cap] 77) (List.mem_cons_of_mem _ List.mem_cons_self) (But.setCell w2 ⟨bb,1,none⟩ _) ?_ fun p hp=>?_
   · simp only[World.setCell,Array.getElem?_modify,hb2]
     simp
   · rcases List.mem_cons.1 hp with rfl|hp
     · exact .inl rfl
     · rcases List.mem_cons.1 hp with rfl|hp
       · exact .inr ⟨hgb,List.mem_cons_self⟩
       · exact .inr ⟨(hrest p hp).2.1,List.mem_cons_of_mem _ (List.mem_cons_of_mem _ hp)⟩
 · cases hk
   exact Below.heap_setCell _ _ _ _ hgb
end Go.Proofs.YtiimlopcifljeaaGreatDoor.Em
