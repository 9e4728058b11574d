import Derived.Test.YthicolbbmjfkfaaGreatQp24
import Derived.Test.YthicolbbmjfkfaaGreatQp22
import Derived.Test.YthicolbbmjfkfaaGreatQp23
import Derived.Test.YthicolbbmjfkfaaGreatQp26
namespace Go.Proofs.YthicolbbmjfkfaaGreat.Plan
open Go.ChangeShapes Go.WideShapes Go.ChangeAt Go.RowKit
set_option linter.unusedVariables false
set_option linter.unusedSimpArgs false
set_option maxRecDepth 100000
set_option maxHeartbeats 1600000
def I64 (e:En):Prop:=∀ z∈[e.k,e.s,e.lv,e.ok,e.oy,e.oh,e.ov],-9223372036854775808≤z∧z<9223372036854775808
def PutBad (w:World) (z:Ending) (w':World):Prop:=∃ v,z=.returned (.tuple #[v,.bool false])∧Below w.heap.size w w'
theorem PutNo.bad {w:World} {z:Ending} {w':World} (h:PutNo w z w'):PutBad w z w':=⟨_,h.1,h.2⟩
theorem PutYes.bad {w:World} {b:Bool} {b0 b1 b2 b3 b4:Int} {z:Ending} {w':World} (h:PutYes w b b0 b1 b2 b3 b4 z w') (hb:b=false):PutBad w z w':=by
 obtain⟨g,h1,_,_,h4,_⟩:=h;subst hb;exact⟨_,h1,h4⟩
theorem inB_all {l:List Int} (h:l.all inB=true):∀ z∈l,0≤z∧z≤255:=by
 intro z hz;exact of_decide_eq_true (List.all_eq_true.1 h z hz)
theorem put_v (e:En) (h:V e) (w:World):Calls Tryz.prog 62 #[enV e] w (PutYes w true (c0 e) e.s (c2 e) e.oy (c4 e)):=by
 have ha:=h.again;have hb:=h.bytes;obtain⟨k,s,lv,ok,oy,oh,ov⟩:=e;unfold V at h;unfold c0 c2 c4 at ha hb ⊢;simp only at h ha hb ⊢
 by_cases hk:k=2
 · subst hk
   rw[if_pos rfl,if_pos rfl] at ha hb ⊢
   by_cases ho:ok=5
   · subst ho
     rw[if_pos rfl] at ha hb ⊢;have:=put_yes_scan s lv oy oh ov (by omega) (by omega) (by omega) (by omega) (by omega) (by omega) (by omega) (by omega) w;have hq:eqB (enE 1 s 40 oy oh) ⟨2,s,lv,5,oy,oh,ov⟩=true:=(eqB_iff _ _).2 ha;rw[hq] at this;exact this
   · rw[if_neg ho] at ha hb ⊢
     have:=put_yes_two s lv ok oy oh ov (beq_eq_false_iff_ne.2 ho) (by omega) (by omega) (by omega) (by omega) (by omega) (by omega) (by omega) (by omega) (by omega) (by omega) w;have hq:eqB (enE 1 s (ok*8) oy ov) ⟨2,s,lv,ok,oy,oh,ov⟩=true:=(eqB_iff _ _).2 ha;rw[hq] at this;exact this
 · rw[if_neg hk,if_neg hk] at ha hb ⊢
   have:=put_yes_other k s lv ok oy oh ov (beq_eq_false_iff_ne.2 hk) (by simp;omega) (by omega) (by omega) (by omega) (by omega) (by omega) (by omega) (by omega) (by omega) (by omega) (by omega) w
   rwa [(eqB_iff _ _).2 ha] at this
theorem not_again {e:En} (h:¬ V e) (h5:e.k≠5) (hs:0≤e.s) (h2:0≤c2 e∧c2 e≤255) (h3:0≤e.oy∧e.oy≤255) (h4:0≤c4 e∧c4 e≤255):eqB (enE (c0 e) e.s (c2 e) e.oy (c4 e)) e=false:=by
 cases hq:eqB (enE (c0 e) e.s (c2 e) e.oy (c4 e)) e
 · rfl
 · exact absurd (V.of_prog h5 hs h2 h3 h4 ((eqB_iff _ _).1 hq)) h
theorem put_nv (e:En) (h:¬ V e) (hi:I64 e) (w:World):Calls Tryz.prog 62 #[enV e] w (PutBad w):=by
 have hn:=not_again h;obtain⟨k,s,lv,ok,oy,oh,ov⟩:=e;have ik:-9223372036854775808≤k∧k<9223372036854775808:=hi k (by simp);have io:-9223372036854775808≤ok∧ok<9223372036854775808:=hi ok (by simp);clear h hi;unfold c0 c2 c4 at hn;simp only at hn
 by_cases hk:k=2
 · subst hk
   rw[if_pos rfl,if_pos rfl] at hn
   by_cases ho:ok=5
   · subst ho
     rw[if_pos rfl] at hn
     cases hz:[1,s,lv,5,40,oy,oh].all inB
     · exact (put_no_scan s lv oy oh ov hz w).mono fun _ _ h=>h.bad
     · have q:=inB_all hz
       have q1:=q s (by simp);have q2:=q lv (by simp);have q3:=q oy (by simp);have q4:=q oh (by simp);exact (put_yes_scan s lv oy oh ov q1.1 q1.2 q2.1 q2.2 q3.1 q3.2 q4.1 q4.2 w).mono fun _ _ h=>h.bad (hn (by omega) q1.1 (by omega) q3 q4)
   · rw[if_neg ho] at hn
     cases hz:[1,s,lv,ok,wrap64 (ok*8),oy,ov].all inB
     · exact (put_no_two s lv ok oy oh ov (beq_eq_false_iff_ne.2 ho) hz w).mono fun _ _ h=>h.bad
     · have q:=inB_all hz
       have q1:=q s (by simp);have q2:=q lv (by simp);have q3:=q oy (by simp);have q4:=q ov (by simp);have q5:=q ok (by simp);have q6:=q (wrap64 (ok*8)) (by simp);have q7:ok*8≤255:=by unfold wrap64 at q6;omega
       exact (put_yes_two s lv ok oy oh ov (beq_eq_false_iff_ne.2 ho) q1.1 q1.2 q2.1 q2.2 q5.1 q7 q3.1 q3.2 q4.1 q4.2 w).mono fun _ _ h=>h.bad (hn (by omega) q1.1 (by omega) q3 q4)
 · rw[if_neg hk,if_neg hk] at hn
   cases hz:[wrap64 (k - 1),s,lv,ok,lv,oy,0].all inB
   · exact (put_no_other k s lv ok oy oh ov (beq_eq_false_iff_ne.2 hk) hz w).mono fun _ _ h=>h.bad
   · have q:=inB_all hz
     have q1:=q s (by simp);have q2:=q lv (by simp);have q3:=q oy (by simp);have q5:=q ok (by simp);have q6:=q (wrap64 (k - 1)) (by simp);have q7:1≤k∧k≤256:=by unfold wrap64 at q6;omega
     by_cases h5:k=5
     · subst h5
       exact (put_yes_bad s lv ok oy oh ov q1.1 q1.2 q2.1 q2.2 q5.1 q5.2 q3.1 q3.2 w).mono fun _ _ h=>h.bad rfl
     · exact (put_yes_other k s lv ok oy oh ov (beq_eq_false_iff_ne.2 hk) (by simp;omega) q7.1 q7.2 q1.1 q1.2 q2.1 q2.2 q5.1 q5.2 q3.1 q3.2 w).mono fun _ _ h=>h.bad (hn h5 q1.1 q2 q3 (by omega))
theorem ok_v (e:En) (h:V e) (w:World):Calls Tryz.prog 66 #[enV e] w fun z w'=>z=.returned (.bool true)∧Below w.heap.size w w':=by
 have HP:=Lib.hid (fun w=>put_v e h w);clear h;generalize c0 e=b0 at*;generalize c2 e=b2 at*;generalize c4 e=b4 at*;obtain⟨k,s,lv,ok,oy,oh,ov⟩:=e;go_enter Tryz.func66,Tryz.ntmps66;go_wp2_with fail;refine (HP.out _).mono ?_;rintro z w1 ⟨g,rfl,hg,hg',hq,x0,x1,x2,x3,x4⟩;have hb:Below w.heap.size w w1:=(below_allocs1 w _).trans (hq.mono (by simp));clear HP hq;go_wp2_with fail;go_ret;exact⟨rfl,hb⟩
theorem ok_nv (e:En) (h:¬ V e) (hi:I64 e) (w:World):Calls Tryz.prog 66 #[enV e] w fun z w'=>z=.returned (.bool false)∧Below w.heap.size w w':=by
 have HP:=Lib.hid (fun w=>put_nv e h hi w);clear h hi;obtain⟨k,s,lv,ok,oy,oh,ov⟩:=e;go_enter Tryz.func66,Tryz.ntmps66;go_wp2_with fail;refine (HP.out _).mono ?_;rintro z w1 ⟨v,rfl,hq⟩;have hb:Below w.heap.size w w1:=(below_allocs1 w _).trans (hq.mono (by simp));clear HP hq;go_wp2_with fail;go_ret;exact⟨rfl,hb⟩
end Go.Proofs.YthicolbbmjfkfaaGreat.Plan
namespace Go.Proofs.YthicolbbmjfkfaaGreat.Em
open Go.ChangeShapes Go.WideShapes Go.ChangeAt Go.RowKit En
set_option linter.unusedVariables false
set_option linter.unusedSimpArgs false
set_option maxRecDepth 100000
set_option maxHeartbeats 1600000
abbrev playerO (be:Nat):Obj:=.cells #[.pointer (some ⟨be,0,none⟩)] 154
theorem EKt.base {b:Nat} {w0 w1 w:World} {ks:List Kept} {σ:St} (h:EKt b w1 ks σ w) (hb:Below w0.heap.size w0 w1):EKt b w0 ks σ w:=by
 obtain⟨A,e,l,g,t⟩:=h.ex;exact⟨A,e,l,(Grow.below (L:=fun _=>none) hb).trans g,t⟩
theorem snew_any (n l:Nat) (h1:1≤n) (h2:n≤256) (h3:1≤l) (h4:l≤1099511627776) (w:World):
 Calls Tryz.prog 21 #[.agg #[zi (n:Int),zu (l:Int)]] w fun e w'=>∃ be pl,e=.returned (.tuple #[.pointer (some ⟨pl,0,none⟩),zi 0])∧EKt be w [.obj pl (playerO be)] (new n l) w':=by
 obtain⟨w0,hw0⟩:∃ w0,w0=w.alloc (.cells #[zi (n:Int),zu (l:Int)] 66):=⟨_,rfl⟩
 have HB:Hid (Below w.heap.size w w0):=by rw[hw0];exact (Below.refl _ w).alloc (Nat.le_refl _) _
 have HN:Hid (Calls Tryz.prog 37 #[.agg #[zi (n:Int),zu (l:Int)]] w0 fun e w'=>∃ b,e=.returned (.tuple #[.pointer (some ⟨b,0,none⟩),zi 0])∧EKt b w [] (new n l) w'):=(new_at n l h1 h2 h3 h4 w0).mono fun e w' ⟨b,h,q⟩=>⟨b,h,q.kt.base HB.out⟩
 subst hw0;clear h1 h2 h3 h4 HB;go_enter Tryz.func21,Tryz.ntmps21;go_wp2_with (go_at_call 37;refine HN.out.mono ?_;rintro e w1 ⟨be,rfl,q⟩;have T1:=zH q;clear q);exact bodyPost_ret (v:=.tuple #[.pointer (some ⟨w1.heap.size,0,none⟩),zi 0]) (by simp[results,Tryz.results21,go_sem]) rfl ⟨_,_,rfl,T1.out.alloc _⟩
theorem sengine_any (pl be:Nat) (w:World) (h:w.cell? ⟨pl,0,none⟩=some (.pointer (some ⟨be,0,none⟩))):
 Calls Tryz.prog 30 #[.pointer (some ⟨pl,0,none⟩)] w fun e w'=>e=.returned (.pointer (some ⟨be,0,none⟩))∧w=w':=by
 go_enter Tryz.func30,Tryz.ntmps30;go_wp2_with fail;go_ret;exact⟨rfl,rfl⟩
def entE (p:Pk):Plan.En:=
 if p.kd=0 then ⟨1,p.s,p.l,0,0,0,0⟩ else if p.kd=1 then ⟨2,p.s,0,p.k,p.key,p.hi,p.v⟩ else if p.kd=6 then ⟨4,0,0,0,0,0,0⟩ else ⟨3,p.s,0,0,0,0,0⟩
theorem entE_i64 {p:Pk} (h:PkOk p):Plan.I64 (entE p):=by
 have h1:=h p.s (by simp);have h2:=h p.l (by simp);have h3:=h p.k (by simp);have h4:=h p.key (by simp);have h5:=h p.hi (by simp);have h6:=h p.v (by simp);intro z hz;unfold entE at hz
 split at hz
 · simp at hz;rcases hz with rfl|rfl|rfl|rfl<;>omega
 · split at hz
   · simp at hz;rcases hz with rfl|rfl|rfl|rfl|rfl|rfl|rfl<;>omega
   · split at hz
     · simp at hz;rcases hz with rfl|rfl<;>omega
     · simp at hz;rcases hz with rfl|rfl|rfl<;>omega
theorem entry_to (p:Pk) (w:World):Calls Tryz.prog 22 #[pkV p] w fun e w'=>e=.returned (Plan.enV (entE p))∧Below w.heap.size w w':=by
 obtain⟨kd,s,l,k,key,hi,v⟩:=p;unfold pkV pkCs Plan.enV entE;simp only[List.toArray]
 by_cases h0:kd=0
 · subst h0
   simp only[if_true];go_enter Tryz.func22,Tryz.ntmps22;go_wp2_with fail;exact bodyPost_ret (v:=.agg #[zi 1,zi s,zi l,zi 0,zi 0,zi 0,zi 0]) (by simp[results,Tryz.results22,go_sem]) rfl ⟨rfl,by exact Plan.below_allocs2 _ _ _⟩
 by_cases h1:kd=1
 · subst h1
   simp only[if_true,if_neg h0];go_enter Tryz.func22,Tryz.ntmps22;go_wp2_with fail;exact bodyPost_ret (v:=.agg #[zi 2,zi s,zi 0,zi k,zi key,zi hi,zi v]) (by simp[results,Tryz.results22,go_sem]) rfl ⟨rfl,by exact Plan.below_allocs2 _ _ _⟩
 by_cases h6:kd=6
 · subst h6
   simp only[if_true,if_neg h0,if_neg h1];go_enter Tryz.func22,Tryz.ntmps22;go_wp2_with fail;exact bodyPost_ret (v:=.agg #[zi 4,zi 0,zi 0,zi 0,zi 0,zi 0,zi 0]) (by simp[results,Tryz.results22,go_sem]) rfl ⟨rfl,by exact Plan.below_allocs2 _ _ _⟩
 · have f0:(kd==0)=false:=by simpa using h0
   have f1:(kd==1)=false:=by simpa using h1
   have f6:(kd==6)=false:=by simpa using h6
   simp only[if_neg h0,if_neg h1,if_neg h6];have e0:(kd=0)=False:=by simpa using h0
   have e1:(kd=1)=False:=by simpa using h1
   have e6:(kd=6)=False:=by simpa using h6
   clear h0 h1 h6;go_enter Tryz.func22,Tryz.ntmps22;go_wp2_with fail;exact bodyPost_ret (v:=.agg #[zi 3,zi s,zi 0,zi 0,zi 0,zi 0,zi 0]) (by simp[results,Tryz.results22,go_sem]) rfl ⟨rfl,by exact Plan.below_allocs2 _ _ _⟩
theorem same_any (er id kd re rv rn ro:Int) (a1 a2:Option Addr) (n c1 c2:Nat) (ps:List (Nat×Nat)) (w:World) (h1:Ow.Row w 0 2 (.slice a1 n c1) (pairCs ps)) (h2:Ow.Row w 0 2 (.slice a2 n c2) (pairCs ps)):
 Calls Tryz.prog 26 #[.agg #[zi er,zi id,zi kd,zi re,zi rv,.slice a1 n c1,zi rn,zi ro],.agg #[zi er,zi id,zi kd,zi re,zi rv,.slice a2 n c2,zi rn,zi ro]] w fun e w'=>e=.returned (.bool true)∧Below w.heap.size w w':=by
 have H:Hid (∀ w',Below w.heap.size w w'→Calls Tryz.prog 12 #[.agg #[zi re,zi rv,.slice a1 n c1,zi rn,zi ro],.agg #[zi re,zi rv,.slice a2 n c2,zi rn,zi ro]] w' fun e w''=>e=.returned (.bool true)∧Below w'.heap.size w' w''):=fun w' hb=>same_result re rv rn ro a1 a2 n c1 c2 ps w' (h1.below hb) (h2.below hb)
 clear h1 h2;go_enter Tryz.func26,Tryz.ntmps26;go_wp2_with (go_at_call 12;refine (H.out _ (Plan.below_allocs2 _ _ _)).mono ?_;rintro e w3 ⟨rfl,hb⟩);go_ret;exact⟨rfl,(Plan.below_allocs2 _ _ _).trans (hb.mono (by simp;omega))⟩
end Go.Proofs.YthicolbbmjfkfaaGreat.Em
namespace Go.Proofs.YthicolbbmjfkfaaGreat.Em.Cw
open En
set_option linter.unusedVariables false
set_option linter.unusedSimpArgs false
set_option maxRecDepth 100000
set_option maxHeartbeats 1600000
section
variable {N:Nat} {σ τ υ:St} {L:Nat→List Nat} {O:Nat→Nat}
end
section
variable {N Lm n:Nat} {σ τ υ:St} {L:Nat→List Nat} {O:Nat→Nat}
end
section
variable {N Lm n:Nat} {σ τ υ:St} {L:Nat→List Nat} {O:Nat→Nat}
end
section
variable {N L n s d:Nat} {σ τ υ:St} {t:Txn} {c:Cal} {C:Nat→List Nat} {O:Nat→Nat}
end
section
variable {N L n s d:Nat} {σ τ υ:St} {t:Txn} {c:Cal} {C:Nat→List Nat} {O:Nat→Nat}
end
section
variable {N L n s d:Nat} {σ τ υ:St} {t:Txn} {c:Cal} {C:Nat→List Nat} {O O':Nat→Nat}
end
section
variable {N L n s d:Nat} {σ τ υ:St} {t:Txn} {c:Cal} {C:Nat→List Nat} {O O':Nat→Nat}
end
end Go.Proofs.YthicolbbmjfkfaaGreat.Em.Cw
namespace Go.Proofs.YthicolbbmjfkfaaGreat.Em
open Go.ChangeShapes Go.WideShapes Go.ChangeAt Go.RowKit En
set_option linter.unusedVariables false
set_option linter.unusedSimpArgs false
set_option maxRecDepth 100000
set_option maxHeartbeats 1600000
variable {A:Book} {σ:St} {w:World}
def sI (s:Int):Bool:=decide (0≤s)&&decide (s<8)
def lI (l:Int):Bool:=decide (1≤l)&&decide (l≤3)
theorem sI_of {s:Int} (h:sI s=true):∃ n:Nat,s=n∧n<8:=by
 unfold sI at h;simp at h;exact⟨s.toNat,by omega,by omega⟩
theorem sI_nat {n:Nat} (h:n<8):sI n=true:=by unfold sI;simp;omega
theorem lI_of {l:Int} (h:lI l=true):∃ n:Nat,l=n∧1≤n∧n≤3:=by
 unfold lI at h;simp at h;exact⟨l.toNat,by omega,by omega,by omega⟩
theorem sessionI (s:Int) (w:World):Calls Tryz.prog 40 #[zi s] w fun e w'=>e=.returned (.bool (sI s))∧w=w':=by
 go_enter Tryz.func40,Tryz.ntmps40;go_wp2
 all_goals (
  go_ret
  refine⟨congrArg (fun b=>Ending.returned (Value.bool b)) ?_,rfl⟩
  rw[Bool.eq_iff_iff]
  unfold sI
  (try simp_all)<;>(try omega))
theorem levelI (s:Int) (w:World):Calls Tryz.prog 41 #[zi s] w fun e w'=>e=.returned (.bool (lI s))∧w=w':=by
 go_enter Tryz.func41,Tryz.ntmps41;go_wp2
 all_goals (
  go_ret
  refine⟨congrArg (fun b=>Ending.returned (Value.bool b)) ?_,rfl⟩
  rw[Bool.eq_iff_iff]
  unfold lI
  (try simp_all)<;>(try omega))
theorem begin_arg (be:Nat) (w:World) (s level:Int) (hb:sI s=false∨lI level=false):
 Calls Tryz.prog 9 #[.pointer (some ⟨be,0,none⟩),zi s,zi level] w fun e w'=>e=.returned (.tuple #[zi 0,zi 1])∧w=w':=by
 have hsok:=zH (sessionI s);have hlev:=zH (levelI level)
 cases h1:sI s with
 |false=>
  rw[h1] at hsok;clear hb hlev h1;go_enter Tryz.func9,Tryz.ntmps9;go_wp2_with (first|(go_at_call 40;refine (hsok.out _).mono ?_;rintro e w' ⟨rfl,rfl⟩))
  go_ret2
  exact⟨rfl,rfl⟩
 |true=>
  have h2:lI level=false:=hb.resolve_left (by rw[h1];simp);rw[h1] at hsok;rw[h2] at hlev;clear hb h1 h2;go_enter Tryz.func9,Tryz.ntmps9;go_wp2_with (first|(go_at_call 40;refine (hsok.out _).mono ?_;rintro e w' ⟨rfl,rfl⟩)|(go_at_call 41;refine (hlev.out _).mono ?_;rintro e w' ⟨rfl,rfl⟩))
  go_ret2
  exact⟨rfl,rfl⟩
theorem issue_arg (be:Nat) (w:World) (s k key hi v:Int) (hb:sI s=false):
 Calls Tryz.prog 33 #[.pointer (some ⟨be,0,none⟩),zi s,.agg #[zi k,zi key,zi hi,zi v]] w fun e w'=>e=.returned (zi 1)∧Below w.heap.size w w':=by
 have hsok:=zH (sessionI s);rw[hb] at hsok;have HB:=zH ((Below.refl _ w).alloc (Nat.le_refl _) (.cells #[zi k,zi key,zi hi,zi v] 27));clear hb;go_enter Tryz.func33,Tryz.ntmps33;go_wp2_with (first|(go_at_call 40;refine (hsok.out _).mono ?_;rintro e w' ⟨rfl,rfl⟩));go_ret;exact⟨rfl,HB.out⟩
theorem issue_no (hL:Live A σ w) (s:Nat) (hs:s<8) (k key hi v:Int) (hb:σ.txns.getD s none=none∨opI k key hi v=false∨(σ.calls.getD s none).isSome=true):
 Calls Tryz.prog 33 #[.pointer (some ⟨A.be,0,none⟩),zi (s:Int),.agg #[zi k,zi key,zi hi,zi v]] w fun e w'=>e=.returned (zi 9)∧Below w.heap.size w w':=by
 have hsok:=zH (sessionI (s:Int));rw[sI_nat hs] at hsok;have hok:=zH (modOpOk_any k key hi v);obtain⟨r0,g0,f0⟩:=allocs1 hL.rep #[zi k,zi key,zi hi,zi v] 27;have b1:(s:Int)<8:=by omega
 have b0:(0:Int)≤(s:Int):=by omega
 have hcf:A.vcall s=.pointer none∧σ.calls.getD s none=none∨A.vcall s=.pointer (some ⟨A.bc s,0,none⟩)∧(σ.calls.getD s none).isSome=true:=by
  cases e:σ.calls.getD s none with
  |none=>exact .inl ⟨hL.idle s hs e,rfl⟩
  |some c=>exact .inr ⟨(hL.call s hs c e).1,rfl⟩
 obtain⟨vc,hvc⟩:∃ vc,vc=A.vcall s:=⟨_,rfl⟩
 rw[←hvc] at hcf;obtain⟨vt,hvt⟩:∃ vt,vt=A.tp σ s:=⟨_,rfl⟩
 have htf:vt=.pointer none∧σ.txns.getD s none=none∨vt=.pointer (some ⟨A.bt s,0,none⟩)∧(σ.txns.getD s none).isSome=true:=by
  rw[hvt];unfold Book.tp
  cases e:σ.txns.getD s none with
  |none=>exact .inl ⟨rfl,rfl⟩
  |some t=>exact .inr ⟨rfl,rfl⟩
 have HW:Hid (∀ w',Below (w.alloc (.cells #[zi k,zi key,zi hi,zi v] 27)).heap.size (w.alloc (.cells #[zi k,zi key,zi hi,zi v] 27)) w'→Below w.heap.size w w'∧(w'.cell? ⟨w.heap.size,0,none⟩=some (zi k)∧w'.cell? ⟨w.heap.size,1,none⟩=some (zi key)∧w'.cell? ⟨w.heap.size,2,none⟩=some (zi hi)∧w'.cell? ⟨w.heap.size,3,none⟩=some (zi v))∧w'.cell? ⟨A.be,5+s,none⟩=some vt∧w'.cell? ⟨A.be,13+s,none⟩=some vc):=by
  intro w' hb;have r:=r0.below hb;have f:=f0.grow (Grow.below (L:=A.L) hb);exact⟨((Below.refl _ _).alloc (Nat.le_refl _) _).trans (hb.mono (by simp)),⟨f.cell 0 rfl,f.cell 1 rfl,f.cell 2 rfl,f.cell 3 rfl⟩,by rw[hvt];exact r.eng (5+s) (engCs_txn A σ hs),by rw[hvc];exact r.eng (13+s) (engCs_call A σ hs)⟩
 obtain⟨hb0,⟨o0,o1,o2,o3⟩,v1,v2⟩:=HW.out _ (Below.refl _ _);have HB0:=zH hb0;clear hL r0 g0 f0 hs hb0 hvc hvt
 rcases htf with ⟨rfl,ht⟩|⟨rfl,ht⟩
 · clear hcf hb ht
   go_enter Tryz.func33,Tryz.ntmps33;go_wp2_with (first|(go_at_call 40;refine (hsok.out _).mono ?_;rintro e w' ⟨rfl,rfl⟩));go_ret;exact⟨rfl,HB0.out⟩
 · replace hb:opI k key hi v=false∨(σ.calls.getD s none).isSome=true:=hb.resolve_left (fun e=>by rw[e] at ht;cases ht)
   cases ho:opI k key hi v with
   |false=>
    rw[ho] at hok;clear hcf hb ht ho;go_enter Tryz.func33,Tryz.ntmps33;go_wp2_with (first|(go_at_call 40;refine (hsok.out _).mono ?_;rintro e w' ⟨rfl,rfl⟩)|(go_at_call 68;refine (hok.out _).mono ?_;rintro e w1 ⟨rfl,hb⟩;have H1:=zH (HW.out w1 hb).1;clear hb));go_ret;exact⟨rfl,H1.out⟩
   |true=>
    rcases hcf with ⟨_,hc⟩|⟨rfl,hc⟩
    · rw[ho,hc] at hb
      rcases hb with hb|hb<;>cases hb
    rw[ho] at hok;clear hb ht ho hc;go_enter Tryz.func33,Tryz.ntmps33;go_wp2_with (first|(go_at_call 40;refine (hsok.out _).mono ?_;rintro e w' ⟨rfl,rfl⟩)|(go_at_call 68;refine (hok.out _).mono ?_;rintro e w1 ⟨rfl,hb⟩;obtain⟨hbb,⟨y0,y1,y2,y3⟩,x1,x2⟩:=HW.out w1 hb;have H1:=zH hbb;clear hb hbb));go_ret;exact⟨rfl,H1.out⟩
theorem step_arg (be:Nat) (w:World) (s:Int) (hb:sI s=false):
 Calls Tryz.prog 34 #[.pointer (some ⟨be,0,none⟩),zi s] w fun e w'=>e=.returned (.tuple #[.agg #[zi 0,zi 0,zi 0,.slice none 0 0,zi 0,zi 0],zi 1])∧Below w.heap.size w w':=by
 have hsok:=zH (sessionI s);rw[hb] at hsok;have HB:=zH ((Below.refl _ w).alloc (Nat.le_refl _) (.cells #[zi 0,zi 0,zi 0,.slice none 0 0,zi 0,zi 0] 81));clear hb;go_enter Tryz.func34,Tryz.ntmps34;go_wp2_with (first|(go_at_call 40;refine (hsok.out _).mono ?_;rintro e w' ⟨rfl,rfl⟩));refine bodyPost_ret (results_cell_tmp_row rfl _ _ w.heap.size 81 #[zi 0,zi 0,zi 0,.slice none 0 0,zi 0,zi 0] _ _ rfl (heap_alloc_new w _) Tryz.underlying81 rfl (by kernel_rfl)) rfl ?_;exact⟨rfl,HB.out⟩
theorem step_no (hL:Live A σ w) (s:Nat) (hs:s<8) (hn:σ.calls.getD s none=none):
 Calls Tryz.prog 34 #[.pointer (some ⟨A.be,0,none⟩),zi (s:Int)] w fun e w'=>e=.returned (.tuple #[.agg #[zi 0,zi 0,zi 0,.slice none 0 0,zi 0,zi 0],zi 9])∧Below w.heap.size w w':=by
 have hsok:=zH (sessionI (s:Int));rw[sI_nat hs] at hsok;have b1:(s:Int)<8:=by omega
 have b0:(0:Int)≤(s:Int):=by omega
 have HB:=zH ((Below.refl _ w).alloc (Nat.le_refl _) (.cells #[zi 0,zi 0,zi 0,.slice none 0 0,zi 0,zi 0] 81));have v1:(w.alloc (.cells #[zi 0,zi 0,zi 0,.slice none 0 0,zi 0,zi 0] 81)).cell? ⟨A.be,13+s,none⟩=some (.pointer none):=((hL.rep.alloc _).eng (13+s) (engCs_call A σ hs)).trans (by rw[hL.idle s hs hn]);clear hL hs hn;go_enter Tryz.func34,Tryz.ntmps34;go_wp2_with (first|(go_at_call 40;refine (hsok.out _).mono ?_;rintro e w' ⟨rfl,rfl⟩));refine bodyPost_ret (results_cell_tmp_row rfl _ _ w.heap.size 81 #[zi 0,zi 0,zi 0,.slice none 0 0,zi 0,zi 0] _ _ rfl (heap_alloc_new w _) Tryz.underlying81 rfl (by kernel_rfl)) rfl ?_;exact⟨rfl,HB.out⟩
end Go.Proofs.YthicolbbmjfkfaaGreat.Em
namespace Go.Proofs.YthicolbbmjfkfaaGreat.Em
open Go.ChangeShapes Go.WideShapes Go.ChangeAt Go.RowKit En
open Cw (WF LK LZ getD_setO)
set_option linter.unusedVariables false
set_option linter.unusedSimpArgs false
set_option maxRecDepth 100000
set_option maxHeartbeats 1600000
section
variable {N L n:Nat} {W:Wd}
end
end Go.Proofs.YthicolbbmjfkfaaGreat.Em
namespace Go.Proofs.YthicolbbmjfkfaaGreat.Em
open Go.ChangeShapes Go.WideShapes Go.ChangeAt Go.RowKit En
open Cw (WF)
set_option linter.unusedVariables false
set_option linter.unusedSimpArgs false
set_option maxRecDepth 100000
set_option maxHeartbeats 1600000
section
variable {B:WBook} {be:Nat} {w0 w w':World} {ks:List Kept} {W:Wd}
end
section
variable {N L n:Nat} {W:Wd}
end
end Go.Proofs.YthicolbbmjfkfaaGreat.Em
namespace Go.Proofs.YthicolbbmjfkfaaGreat.Em
open Go.ChangeShapes Go.WideShapes Go.ChangeAt Go.RowKit En
open Cw (WF)
set_option linter.unusedVariables false
set_option linter.unusedSimpArgs false
set_option maxRecDepth 100000
set_option maxHeartbeats 1600000
structure EW (N L n:Nat) (σ:St):Prop where
 wf:WF N L n σ
 ct:σ.count≤8*n
 lk:σ.looks≤8*n
 sq:σ.seq≤n
def Gone (A:Book) (w:World) (σ1:St) (w':World):Prop:=∃ A',Live A' σ1 w'∧Grow A.L w A'.L w'∧A'.be=A.be
theorem Gone.same {A:Book} {σ:St} {w w':World} (hL:Live A σ w) (hb:Below w.heap.size w w'):Gone A w σ w':=⟨A,hL.below hb,Grow.below hb,rfl⟩
section
variable {N L n:Nat} {σ:St}
theorem EW.mono {n':Nat} (h:EW N L n σ) (hn:n≤n'):EW N L n' σ:=⟨h.wf.mono hn,by have:=h.ct;omega,by have:=h.lk;omega,by have:=h.sq;omega⟩
theorem EW.new {N L:Nat} (h1:N≤256) (h2:L≤1099511627776):EW N L 0 (new N L):=⟨WF.new h1 h2,Nat.zero_le _,Nat.zero_le _,Nat.zero_le _⟩
theorem EW.list (h:EW N L n σ):EW N L n σ.list:=by
 obtain⟨e1,e2,e3,e4,e5,e6,e7,e8,e9⟩:=Cw.list_txns σ;exact⟨h.wf.list,by rw[e3];exact h.ct,by rw[e4];exact h.lk,by rw[e5];exact h.sq⟩
theorem EW.begin_ (h:EW N L n σ) (hn:n<300000) (hmd:σ.made<2000) (s level:Int):∃ (id er:Int) (σ1:St),EW N L (n+3) σ1∧σ1.made≤σ.made+1∧
 ∀ A w,Live A σ w→Calls Tryz.prog 9 #[.pointer (some ⟨A.be,0,none⟩),zi s,zi level] w fun e w'=>e=.returned (.tuple #[zi id,zi er])∧Gone A w σ1 w':=by
 have hct:=h.ct;have hw0:=(h.wf.sh.wd 0).u
 by_cases hok:sI s=true∧lI level=true
 · obtain⟨m,rfl,hm⟩:=sI_of hok.1
   obtain⟨l,rfl,hl1,hl3⟩:=lI_of hok.2
   cases ht:σ.txns.getD m none with
   |some t=>
    refine⟨0,9,σ,h.mono (by omega),Nat.le_succ _,fun A w lv=>?_⟩;refine (begin_taken lv m hm l hl1 hl3 t ht).mono ?_;rintro e w' ⟨A',rfl,hL',g',e'⟩;exact⟨rfl,A',hL',g',e'⟩
   |none=>
    by_cases hlim:timeOf (σ.word 0)<σ.limit
    · obtain⟨σ1,hb,hwf,hc1,hc2,hlk,hsq,hmd1,hcl,htx,hoth,hwd⟩:=h.wf.begin_ hm ht hl1 hl3 hmd hlim (by omega) (by omega)
      refine⟨((σ.made+1:Nat):Int),0,σ1,⟨hwf.mono (by omega),by omega,by have:=h.lk;omega,by have:=h.sq;omega⟩,by omega,fun A w lv=>?_⟩;refine (begin_to hm hb A w lv).mono ?_;rintro e w' ⟨A',rfl,hL',g',e'⟩;exact⟨rfl,A',hL',g',e'⟩
    · refine⟨0,16,σ.tick,⟨h.wf.tick.mono (by omega),by show σ.count+1≤_;omega,by show σ.looks≤_;have:=h.lk;omega,by show σ.seq≤_;have:=h.sq;omega⟩,Nat.le_succ _,fun A w lv=>?_⟩
      refine (begin_over lv m hm l hl1 hl3 ht hmd hw0 (by omega) (by omega)).mono ?_;rintro e w' ⟨A',rfl,hL',g',e'⟩;exact⟨rfl,A',hL',g',e'⟩
 · have hb:sI s=false∨lI level=false:=by
    cases h1:sI s with
    |false=>exact .inl rfl
    |true=>
     cases h2:lI level with
     |false=>exact .inr rfl
     |true=>exact absurd ⟨h1,h2⟩ hok
   refine⟨0,1,σ,h.mono (by omega),Nat.le_succ _,fun A w lv=>(begin_arg A.be w s level hb).mono ?_⟩;rintro e w' ⟨rfl,rfl⟩;exact⟨rfl,Gone.same lv (Below.refl _ _)⟩
theorem EW.issue (h:EW N L n σ) (hn:n<300000) (s k key hi v:Int):∃ (er:Int) (σ1:St),EW N L (n+3) σ1∧σ1.made=σ.made∧
 ∀ A w,Live A σ w→Calls Tryz.prog 33 #[.pointer (some ⟨A.be,0,none⟩),zi s,.agg #[zi k,zi key,zi hi,zi v]] w fun e w'=>e=.returned (zi er)∧Gone A w σ1 w':=by
 have hsame:EW N L (n+3) σ:=h.mono (by omega)
 cases hs:sI s with
 |false=>exact⟨1,σ,hsame,rfl,fun A w lv=>(issue_arg A.be w s k key hi v hs).mono (fun e w' x=>⟨x.1,Gone.same lv x.2⟩)⟩
 |true=>
  obtain⟨m,rfl,hm⟩:=sI_of hs
  cases ht:σ.txns.getD m none with
  |none=>exact⟨9,σ,hsame,rfl,fun A w lv=>(issue_no lv m hm k key hi v (.inl ht)).mono (fun e w' x=>⟨x.1,Gone.same lv x.2⟩)⟩
  |some t=>
   cases ho:opI k key hi v with
   |false=>exact⟨9,σ,hsame,rfl,fun A w lv=>(issue_no lv m hm k key hi v (.inr (.inl ho))).mono (fun e w' x=>⟨x.1,Gone.same lv x.2⟩)⟩
   |true=>
    cases hc:σ.calls.getD m none with
    |some c=>exact⟨9,σ,hsame,rfl,fun A w lv=>(issue_no lv m hm k key hi v (.inr (.inr (by rw[hc];rfl)))).mono (fun e w' x=>⟨x.1,Gone.same lv x.2⟩)⟩
    |none=>
     obtain⟨o,rfl,rfl,rfl,rfl,hoo⟩:=opI_of ho
     by_cases hmany:12≤t.ops∧opEnds o=false
     · exact⟨65,σ,hsame,rfl,fun A w lv=>(issue_many lv m hm t ht o hoo hmany.2 hc hmany.1).mono (fun e w' x=>⟨x.1,Gone.same lv x.2⟩)⟩
     · have hop:t.ops<12∨opEnds o=true:=by
        by_cases h12:t.ops<12
        · exact .inl h12
        · right
          cases e:opEnds o with
          |true=>rfl
          |false=>exact absurd ⟨by omega,e⟩ hmany
       have hsq:=h.sq;have hct:=h.ct;have hlk:=h.lk;obtain⟨σ1,hi,hwf,e1,e2,e3,e4,-⟩:=h.wf.issue hm ht hc hoo hop (by omega) (by omega);refine⟨0,σ1,⟨hwf.mono (by omega),by omega,by omega,by omega⟩,e4,fun A w lv=>(issue_to hm hi A w lv).mono ?_⟩;rintro e w' ⟨A',rfl,hL',g',e'⟩;exact⟨rfl,A',hL',g',e'⟩
theorem EW.step (h:EW N L n σ) (hn:n<300000) (s:Int):∃ (kd re rv rn ro er:Int) (ps:List (Nat×Nat)) (σ1:St),EW N L (n+3) σ1∧σ1.made=σ.made∧
 ∀ A w,Live A σ w→Calls Tryz.prog 34 #[.pointer (some ⟨A.be,0,none⟩),zi s] w fun e w'=>∃ A' vp,e=.returned (.tuple #[.agg #[zi kd,zi re,zi rv,vp,zi rn,zi ro],zi er])∧FRow A'.L w' 2 vp (pairCs ps)∧Live A' σ1 w'∧Grow A.L w A'.L w'∧A'.be=A.be:=by
 have hsame:EW N L (n+3) σ:=h.mono (by omega)
 cases hs:sI s with
 |false=>
  refine⟨0,0,0,0,0,1,[],σ,hsame,rfl,fun A w lv=>(step_arg A.be w s hs).mono ?_⟩;rintro e w' ⟨rfl,hb⟩;exact⟨A,_,rfl,FRow.nil _ _ _,lv.below hb,Grow.below hb,rfl⟩
 |true=>
  obtain⟨m,rfl,hm⟩:=sI_of hs
  cases hc:σ.calls.getD m none with
  |none=>
   refine⟨0,0,0,0,0,9,[],σ,hsame,rfl,fun A w lv=>(step_no lv m hm hc).mono ?_⟩;rintro e w' ⟨rfl,hb⟩;exact⟨A,_,rfl,FRow.nil _ _ _,lv.below hb,Grow.below hb,rfl⟩
  |some c=>
   have hct:=h.ct;have hlk:=h.lk;have hsq:=h.sq;obtain⟨σ1,kd,r,hst,hwf,c1,c2,l1,l2,hsq1,hmd,-⟩:=h.wf.step hm hc (by omega) (by omega) (by omega);exact⟨kd,r.e,r.value,r.over,r.reason,0,r.pairs,σ1,⟨hwf,by omega,by omega,by omega⟩,hmd,fun A w lv=>step_calls lv hm hst⟩
theorem EW.sweep (h:EW N L n σ) (hn:n<300000):EW N L (n+3) σ.sweep.1∧σ.sweep.1.made=σ.made∧
 ∀ A w,Live A σ w→Calls Tryz.prog 35 #[.pointer (some ⟨A.be,0,none⟩)] w fun e w'=>e=.returned (.bool σ.sweep.2)∧Gone A w σ.sweep.1 w':=by
 have hct:=h.ct;have hlk:=h.lk;have hsq:=h.sq;obtain⟨h1,h2,h3,h4,h5,h6,h7,-⟩:=h.wf.sweep;refine⟨⟨h1.mono (by omega),by omega,by omega,by omega⟩,h7,fun A w lv=>?_⟩;have hok:okSweep σ=true:=h.wf.okSweep (by omega) (by omega) (by omega);refine (sweep_any lv hok).mono ?_;rintro e w' ⟨rfl,A',s1,hL',g'⟩;have hbe:A'.be=A.be:=by obtain⟨⟨L,v,c,f,m,hc',gc,cs,rfl⟩,_⟩:=s1;rfl
 exact⟨rfl,A',hL',g',hbe⟩
end
end Go.Proofs.YthicolbbmjfkfaaGreat.Em
namespace Go.Proofs.YthicolbbmjfkfaaGreat.Em
open Go.ChangeShapes Go.WideShapes Go.ChangeAt Go.RowKit En
set_option linter.unusedVariables false
set_option linter.unusedSimpArgs false
set_option maxRecDepth 100000
set_option maxHeartbeats 1600000
theorem size_alloc (w:World) (o:Obj):(w.alloc o).heap.size=w.heap.size+1:=by simp
theorem plays_of {A0:Book} {w0 w w4:World} {fx:List (Nat×Obj)} {σ:St} {a0 a1 a2 a3 a4 a5 a6 a7 vp:Value} {er id kd re rv rn ro:Int} {ps:List (Nat×Nat)} {T:TypeId} {g:Nat} {p:Nat×Obj} {rs:List (Value×List Value)}
 (h:TV A0 w0 fx [p,(g,.cells #[a0,a1,a2,a3,a4,a5,a6,a7] T)] ((vp,pairCs ps)::rs) σ w4) (hp:p.1≠g)
 (hw:w4.setCells g 0 [zi er,zi id,zi kd,zi re,zi rv,vp,zi rn,zi ro]=w):
 w.heap[g]? =some (.cells #[zi er,zi id,zi kd,zi re,zi rv,vp,zi rn,zi ro] T)∧
 Plays A0 w0 σ er id kd re rv rn ro ps (.returned (.agg #[zi er,zi id,zi kd,zi re,zi rv,vp,zi rn,zi ro])) w:=by
 have hr:=h.varOf (k:=g) (o:=.cells #[a0,a1,a2,a3,a4,a5,a6,a7] T) (by simp);have hbut:=But.setCells g [zi er,zi id,zi kd,zi re,zi rv,vp,zi rn,zi ro] 0 w4;have hfin:=heap_setCells8 hr (zi er) (zi id) (zi kd) (zi re) (zi rv) vp (zi rn) (zi ro);rw[hw] at hbut hfin;obtain⟨p1,p2⟩:=p;exact⟨hfin,(h.swap.put (by intro q hm;simp at hm;exact hp hm.1.symm) hbut hfin).plays⟩
theorem heap_mid8 {w:World} {b:Nat} {a0 a1 a2 a3 a4 a5 a6 a7:Value} {T:TypeId} (h:w.heap[b]? =some (.cells #[a0,a1,a2,a3,a4,a5,a6,a7] T)) (v2 v3 v4 v5 v6 v7:Value):(w.setCells b 2 [v2,v3,v4,v5,v6,v7]).heap[b]? =some (.cells #[a0,a1,v2,v3,v4,v5,v6,v7] T):=by
 have h3:=heap_setCell_same h 2 v2;have h4:=heap_setCell_same h3 3 v3;have h5:=heap_setCell_same h4 4 v4;have h6:=heap_setCell_same h5 5 v5;have h7:=heap_setCell_same h6 6 v6;have h8:=heap_setCell_same h7 7 v7;exact h8
theorem TV.mid {A0:Book} {w0 w:World} {fx vs:List (Nat×Obj)} {rs:List (Value×List Value)} {σ:St} {g:Nat} {a0 a1 a2 a3 a4 a5 a6 a7:Value} {T:TypeId} (h:TV A0 w0 fx ((g,.cells #[a0,a1,a2,a3,a4,a5,a6,a7] T)::vs) rs σ w) (hv:∀ p,(g,p) ∉ vs) (v2 v3 v4 v5 v6 v7:Value):
 TV A0 w0 fx ((g,.cells #[a0,a1,v2,v3,v4,v5,v6,v7] T)::vs) rs σ (w.setCells g 2 [v2,v3,v4,v5,v6,v7]):=
 h.put hv (But.setCells g _ 2 w) (heap_mid8 (h.varOf List.mem_cons_self) v2 v3 v4 v5 v6 v7)
theorem there_mid {w:World} {b:Nat} {cs:Array Value} {T:TypeId} (h:w.heap[b]? =some (.cells cs T)):∀ o n,o+n≤cs.size→w.there b o n:=by
 intro o n hn j hj;refine⟨?_,by simp[World.frozen?,h]⟩;rw[cell_of_row w b (o+j) _ _ _ h];simp;omega
theorem entry_begin {A0:Book} {σ σ1:St} {w0:World} {pl be:Nat} (s lv ok oy oh ov:Int) (hV:Plan.V ⟨1,s,lv,ok,oy,oh,ov⟩) (hbe:A0.be=be) (hL:Live A0 σ w0) (hf:Fix A0.L w0 pl (playerO be)) {id er:Int}
 (hc:∀ A w,Live A σ w→A.be=be→Calls Tryz.prog 9 #[.pointer (some ⟨be,0,none⟩),zi s,zi lv] w fun x w'=>x=.returned (.tuple #[zi id,zi er])∧Gone A w σ1 w'):
 Calls Tryz.prog 27 #[.pointer (some ⟨pl,0,none⟩),.agg #[zi 1,zi s,zi lv,zi ok,zi oy,zi oh,zi ov]] w0 (Plays A0 w0 σ1 er id 0 0 0 0 0 []):=by
 have HOK:=zH (fun w=>Plan.ok_v _ hV w);have HCE:=fun σ' vs rs w' (T:TV A0 w0 [(w0.heap.size,(.cells #[zi 1,zi s,zi lv,zi ok,zi oy,zi oh,zi ov] 71)),(pl,playerO be)] vs rs σ' w')=>lay8 (cell_of_obj (T.fixOf (k:=pl) (o:=playerO be) (by simp)) 0 rfl).1 (T.fixOf (k:=w0.heap.size) (o:=(.cells #[zi 1,zi s,zi lv,zi ok,zi oy,zi oh,zi ov] 71)) (by simp))
 replace HCE:=zH HCE;have HV:Hid (∀ p:Obj,(w0.heap.size+1+1,p) ∉ [(w0.heap.size+1,(.cells #[zi 0,zi 0,zi 0,zi 0,zi 0,.slice none 0 0,zi 0,zi 0] 83))]):=fun p hm=>by simp at hm
 have T1:Hid (TV A0 w0 [(w0.heap.size,(.cells #[zi 1,zi s,zi lv,zi ok,zi oy,zi oh,zi ov] 71)),(pl,playerO be)] [(w0.heap.size+1+1,(.cells #[zi 0,zi 0,zi 0,zi 0,zi 0,.slice none 0 0,zi 0,zi 0] 83)),(w0.heap.size+1,(.cells #[zi 0,zi 0,zi 0,zi 0,zi 0,.slice none 0 0,zi 0,zi 0] 83))] [] σ (((w0.alloc (.cells #[zi 1,zi s,zi lv,zi ok,zi oy,zi oh,zi ov] 71)).alloc (.cells #[zi 0,zi 0,zi 0,zi 0,zi 0,.slice none 0 0,zi 0,zi 0] 83)).alloc (.cells #[zi 0,zi 0,zi 0,zi 0,zi 0,.slice none 0 0,zi 0,zi 0] 83))):=by
  have h:=(((TV.start hL hf).alloc (.cells #[zi 1,zi s,zi lv,zi ok,zi oy,zi oh,zi ov] 71)).var (.cells #[zi 0,zi 0,zi 0,zi 0,zi 0,.slice none 0 0,zi 0,zi 0] 83)).var (.cells #[zi 0,zi 0,zi 0,zi 0,zi 0,.slice none 0 0,zi 0,zi 0] 83);simp only[size_alloc] at h;exact h
 have HC:Hid (∀ fx vs rs w,TV A0 w0 fx vs rs σ w→Calls Tryz.prog 9 #[.pointer (some ⟨be,0,none⟩),zi s,zi lv] w fun x w'=>x=.returned (.tuple #[zi id,zi er])∧TV A0 w0 fx vs rs σ1 w'):=fun fx vs rs w T=>T.call (R:=fun x=>x=.returned (.tuple #[zi id,zi er])) fun A l e=>hc A w l (e.trans hbe)
 clear hL hf hbe hc hV;go_enter Tryz.func27,Tryz.ntmps27;go_upto_region 6 with ((go_at_call 66;refine (HOK.out _).mono ?_;rintro e wB ⟨rfl,hb⟩;have T2:=zH (T1.out.below hb);obtain⟨p0,e0,e1,e2,e3,e4,e5,e6⟩:=HCE.out _ _ _ _ T2.out;clear hb T1))
 have T2D:=zH (T2.out.below (Below.refl _ _).drew)
 go_region_held3 (fun w'=>w'.cell? ⟨pl,0,none⟩=some (.pointer (some ⟨be,0,none⟩))∧w'.cell? ⟨w0.heap.size,0,none⟩=some (zi 1)∧w'.cell? ⟨w0.heap.size,1,none⟩=some (zi s)∧w'.cell? ⟨w0.heap.size,2,none⟩=some (zi lv)∧w'.cell? ⟨w0.heap.size,3,none⟩=some (zi ok)∧w'.cell? ⟨w0.heap.size,4,none⟩=some (zi oy)∧w'.cell? ⟨w0.heap.size,5,none⟩=some (zi oh)∧w'.cell? ⟨w0.heap.size,6,none⟩=some (zi ov))
  (first|exact⟨p0,e0,e1,e2,e3,e4,e5,e6⟩|assumption|go_keep|exact HCE.out _ _ _ _ T3.out|exact HCE.out _ _ _ _ (T3.out.set HV.out _ _)|exact HCE.out _ _ _ _ ((T3.out.set HV.out _ _).set HV.out _ _))
  (first|(go_at_call 9;refine (HC.out _ _ _ _ T2D.out).mono ?_;rintro x w3 ⟨rfl,q3⟩;have T3:=zH q3;obtain⟨y0,z0⟩:=cell_of_obj (T3.out.varOf (k:=w0.heap.size+1+1) (o:=(.cells #[zi 0,zi 0,zi 0,zi 0,zi 0,.slice none 0 0,zi 0,zi 0] 83)) (by simp)) 0 rfl;obtain⟨y1,z1⟩:=cell_of_obj (T3.out.varOf (k:=w0.heap.size+1+1) (o:=(.cells #[zi 0,zi 0,zi 0,zi 0,zi 0,.slice none 0 0,zi 0,zi 0] 83)) (by simp)) 1 rfl;obtain⟨y2,z2⟩:=cell_of_obj (T3.out.varOf (k:=w0.heap.size+1+1) (o:=(.cells #[zi 0,zi 0,zi 0,zi 0,zi 0,.slice none 0 0,zi 0,zi 0] 83)) (by simp)) 2 rfl;clear q3 T2 T2D))
 all_goals (
  first
  | (have T4 := zH ((T3.out.set HV.out 1 (zi id)).set HV.out 0 (zi er)); generalize hw4 : World.setCell (World.setCell w3 ⟨w0.heap.size + 1 + 1, 1, none⟩ (zi id)) ⟨w0.heap.size + 1 + 1, 0, none⟩ (zi er) = w4 at *; clear hw4
     have T4:=zH ((by simpa only[List.setIfInBounds_toArray,List.set_cons_zero,List.set_cons_succ] using T4.out):TV A0 w0 [(w0.heap.size,(.cells #[zi 1,zi s,zi lv,zi ok,zi oy,zi oh,zi ov] 71)),(pl,playerO be)] [(w0.heap.size+1+1,(.cells #[zi er,zi id,zi 0,zi 0,zi 0,.slice none 0 0,zi 0,zi 0] 83)),(w0.heap.size+1,(.cells #[zi 0,zi 0,zi 0,zi 0,zi 0,.slice none 0 0,zi 0,zi 0] 83))] [] σ1 w4)
     have ho:=T4.out.varOf (k:=w0.heap.size+1+1) (o:=(.cells #[zi er,zi id,zi 0,zi 0,zi 0,.slice none 0 0,zi 0,zi 0] 83)) (by simp)
     obtain⟨o0,_⟩:=cell_of_obj ho 0 rfl
     obtain⟨o1,_⟩:=cell_of_obj ho 1 rfl
     obtain⟨o2,_⟩:=cell_of_obj ho 2 rfl
     obtain⟨o3,_⟩:=cell_of_obj ho 3 rfl
     obtain⟨o4,_⟩:=cell_of_obj ho 4 rfl
     obtain⟨o5,_⟩:=cell_of_obj ho 5 rfl
     obtain⟨o6,_⟩:=cell_of_obj ho 6 rfl
     obtain⟨o7,_⟩:=cell_of_obj ho 7 rfl
     have HTH:=zH (there_of (T4.out.varOf (k:=w0.heap.size+1) (o:=(.cells #[zi 0,zi 0,zi 0,zi 0,zi 0,.slice none 0 0,zi 0,zi 0] 83)) (by simp)))
     clear ho
     go_wp2_with ((refine wpList_store_mid rfl 83 (.tmp 4) (.tmp 63) rfl (w0.heap.size+1) 0 #[zi er,zi id,zi 0,zi 0,zi 0,.slice none 0 0,zi 0,zi 0] rfl rfl HTH.out (by kernel_rfl) (by simp[Value.oneCell']) ?_;generalize hws:World.setCells _ _ _ _=ws))
     obtain⟨hfin,hpl⟩:=plays_of (T4.out.none) (by simp) hws
     refine bodyPost_ret (results_cell_row rfl _ _ (w0.heap.size+1) 83 #[zi er,zi id,zi 0,zi 0,zi 0,.slice none 0 0,zi 0,zi 0] _ _ rfl hfin Tryz.underlying83 rfl (by kernel_rfl)) rfl ?_
     exact hpl)
  | (have T4 := zH ((T3.out.set HV.out 0 (zi er)).set HV.out 1 (zi id)); generalize hw4 : World.setCell (World.setCell w3 ⟨w0.heap.size + 1 + 1, 0, none⟩ (zi er)) ⟨w0.heap.size + 1 + 1, 1, none⟩ (zi id) = w4 at *; clear hw4
     have T4:=zH ((by simpa only[List.setIfInBounds_toArray,List.set_cons_zero,List.set_cons_succ] using T4.out):TV A0 w0 [(w0.heap.size,(.cells #[zi 1,zi s,zi lv,zi ok,zi oy,zi oh,zi ov] 71)),(pl,playerO be)] [(w0.heap.size+1+1,(.cells #[zi er,zi id,zi 0,zi 0,zi 0,.slice none 0 0,zi 0,zi 0] 83)),(w0.heap.size+1,(.cells #[zi 0,zi 0,zi 0,zi 0,zi 0,.slice none 0 0,zi 0,zi 0] 83))] [] σ1 w4)
     have ho:=T4.out.varOf (k:=w0.heap.size+1+1) (o:=(.cells #[zi er,zi id,zi 0,zi 0,zi 0,.slice none 0 0,zi 0,zi 0] 83)) (by simp)
     obtain⟨o0,_⟩:=cell_of_obj ho 0 rfl
     obtain⟨o1,_⟩:=cell_of_obj ho 1 rfl
     obtain⟨o2,_⟩:=cell_of_obj ho 2 rfl
     obtain⟨o3,_⟩:=cell_of_obj ho 3 rfl
     obtain⟨o4,_⟩:=cell_of_obj ho 4 rfl
     obtain⟨o5,_⟩:=cell_of_obj ho 5 rfl
     obtain⟨o6,_⟩:=cell_of_obj ho 6 rfl
     obtain⟨o7,_⟩:=cell_of_obj ho 7 rfl
     have HTH:=zH (there_of (T4.out.varOf (k:=w0.heap.size+1) (o:=(.cells #[zi 0,zi 0,zi 0,zi 0,zi 0,.slice none 0 0,zi 0,zi 0] 83)) (by simp)))
     clear ho
     go_wp2_with ((refine wpList_store_mid rfl 83 (.tmp 4) (.tmp 63) rfl (w0.heap.size+1) 0 #[zi er,zi id,zi 0,zi 0,zi 0,.slice none 0 0,zi 0,zi 0] rfl rfl HTH.out (by kernel_rfl) (by simp[Value.oneCell']) ?_;generalize hws:World.setCells _ _ _ _=ws))
     obtain⟨hfin,hpl⟩:=plays_of (T4.out.none) (by simp) hws
     refine bodyPost_ret (results_cell_row rfl _ _ (w0.heap.size+1) 83 #[zi er,zi id,zi 0,zi 0,zi 0,.slice none 0 0,zi 0,zi 0] _ _ rfl hfin Tryz.underlying83 rfl (by kernel_rfl)) rfl ?_
     exact hpl)
 )
theorem entry_issue {A0:Book} {σ σ1:St} {w0:World} {pl be:Nat} (s lv ok oy oh ov:Int) (hV:Plan.V ⟨2,s,lv,ok,oy,oh,ov⟩) (hbe:A0.be=be) (hL:Live A0 σ w0) (hf:Fix A0.L w0 pl (playerO be)) {er:Int}
 (hc:∀ A w,Live A σ w→A.be=be→Calls Tryz.prog 33 #[.pointer (some ⟨be,0,none⟩),zi s,.agg #[zi ok,zi oy,zi oh,zi ov]] w fun x w'=>x=.returned (zi er)∧Gone A w σ1 w'):
 Calls Tryz.prog 27 #[.pointer (some ⟨pl,0,none⟩),.agg #[zi 2,zi s,zi lv,zi ok,zi oy,zi oh,zi ov]] w0 (Plays A0 w0 σ1 er 0 0 0 0 0 0 []):=by
 have HOK:=zH (fun w=>Plan.ok_v _ hV w);have HCE:=fun σ' vs rs w' (T:TV A0 w0 [(w0.heap.size,(.cells #[zi 2,zi s,zi lv,zi ok,zi oy,zi oh,zi ov] 71)),(pl,playerO be)] vs rs σ' w')=>lay8 (cell_of_obj (T.fixOf (k:=pl) (o:=playerO be) (by simp)) 0 rfl).1 (T.fixOf (k:=w0.heap.size) (o:=(.cells #[zi 2,zi s,zi lv,zi ok,zi oy,zi oh,zi ov] 71)) (by simp))
 replace HCE:=zH HCE;have HV:Hid (∀ p:Obj,(w0.heap.size+1+1,p) ∉ [(w0.heap.size+1,(.cells #[zi 0,zi 0,zi 0,zi 0,zi 0,.slice none 0 0,zi 0,zi 0] 83))]):=fun p hm=>by simp at hm
 have T1:Hid (TV A0 w0 [(w0.heap.size,(.cells #[zi 2,zi s,zi lv,zi ok,zi oy,zi oh,zi ov] 71)),(pl,playerO be)] [(w0.heap.size+1+1,(.cells #[zi 0,zi 0,zi 0,zi 0,zi 0,.slice none 0 0,zi 0,zi 0] 83)),(w0.heap.size+1,(.cells #[zi 0,zi 0,zi 0,zi 0,zi 0,.slice none 0 0,zi 0,zi 0] 83))] [] σ (((w0.alloc (.cells #[zi 2,zi s,zi lv,zi ok,zi oy,zi oh,zi ov] 71)).alloc (.cells #[zi 0,zi 0,zi 0,zi 0,zi 0,.slice none 0 0,zi 0,zi 0] 83)).alloc (.cells #[zi 0,zi 0,zi 0,zi 0,zi 0,.slice none 0 0,zi 0,zi 0] 83))):=by
  have h:=(((TV.start hL hf).alloc (.cells #[zi 2,zi s,zi lv,zi ok,zi oy,zi oh,zi ov] 71)).var (.cells #[zi 0,zi 0,zi 0,zi 0,zi 0,.slice none 0 0,zi 0,zi 0] 83)).var (.cells #[zi 0,zi 0,zi 0,zi 0,zi 0,.slice none 0 0,zi 0,zi 0] 83);simp only[size_alloc] at h;exact h
 have HC:Hid (∀ fx vs rs w,TV A0 w0 fx vs rs σ w→Calls Tryz.prog 33 #[.pointer (some ⟨be,0,none⟩),zi s,.agg #[zi ok,zi oy,zi oh,zi ov]] w fun x w'=>x=.returned (zi er)∧TV A0 w0 fx vs rs σ1 w'):=fun fx vs rs w T=>T.call (R:=fun x=>x=.returned (zi er)) fun A l e=>hc A w l (e.trans hbe)
 clear hL hf hbe hc hV;go_enter Tryz.func27,Tryz.ntmps27;go_upto_region 8 with ((go_at_call 66;refine (HOK.out _).mono ?_;rintro e wB ⟨rfl,hb⟩;have T2:=zH (T1.out.below hb);obtain⟨p0,e0,e1,e2,e3,e4,e5,e6⟩:=HCE.out _ _ _ _ T2.out;clear hb T1))
 have T2D:=zH (T2.out.below (Below.refl _ _).drew)
 go_region_held3 (fun w'=>w'.cell? ⟨pl,0,none⟩=some (.pointer (some ⟨be,0,none⟩))∧w'.cell? ⟨w0.heap.size,0,none⟩=some (zi 2)∧w'.cell? ⟨w0.heap.size,1,none⟩=some (zi s)∧w'.cell? ⟨w0.heap.size,2,none⟩=some (zi lv)∧w'.cell? ⟨w0.heap.size,3,none⟩=some (zi ok)∧w'.cell? ⟨w0.heap.size,4,none⟩=some (zi oy)∧w'.cell? ⟨w0.heap.size,5,none⟩=some (zi oh)∧w'.cell? ⟨w0.heap.size,6,none⟩=some (zi ov))
  (first|exact⟨p0,e0,e1,e2,e3,e4,e5,e6⟩|assumption|go_keep|exact HCE.out _ _ _ _ T3.out|exact HCE.out _ _ _ _ (T3.out.set HV.out _ _)|exact HCE.out _ _ _ _ ((T3.out.set HV.out _ _).set HV.out _ _))
  (first|(go_at_call 33;refine (HC.out _ _ _ _ T2D.out).mono ?_;rintro x w3 ⟨rfl,q3⟩;have T3:=zH q3;obtain⟨y0,z0⟩:=cell_of_obj (T3.out.varOf (k:=w0.heap.size+1+1) (o:=(.cells #[zi 0,zi 0,zi 0,zi 0,zi 0,.slice none 0 0,zi 0,zi 0] 83)) (by simp)) 0 rfl;obtain⟨y1,z1⟩:=cell_of_obj (T3.out.varOf (k:=w0.heap.size+1+1) (o:=(.cells #[zi 0,zi 0,zi 0,zi 0,zi 0,.slice none 0 0,zi 0,zi 0] 83)) (by simp)) 1 rfl;obtain⟨y2,z2⟩:=cell_of_obj (T3.out.varOf (k:=w0.heap.size+1+1) (o:=(.cells #[zi 0,zi 0,zi 0,zi 0,zi 0,.slice none 0 0,zi 0,zi 0] 83)) (by simp)) 2 rfl;clear q3 T2 T2D))
 have T4:=zH (T3.out.set HV.out 0 (zi er));generalize hw4:World.setCell w3 ⟨w0.heap.size+1+1,0,none⟩ (zi er)=w4 at*;clear hw4;have T4:=zH ((by simpa only[List.setIfInBounds_toArray,List.set_cons_zero,List.set_cons_succ] using T4.out):TV A0 w0 [(w0.heap.size,(.cells #[zi 2,zi s,zi lv,zi ok,zi oy,zi oh,zi ov] 71)),(pl,playerO be)] [(w0.heap.size+1+1,(.cells #[zi er,zi 0,zi 0,zi 0,zi 0,.slice none 0 0,zi 0,zi 0] 83)),(w0.heap.size+1,(.cells #[zi 0,zi 0,zi 0,zi 0,zi 0,.slice none 0 0,zi 0,zi 0] 83))] [] σ1 w4);have ho:=T4.out.varOf (k:=w0.heap.size+1+1) (o:=(.cells #[zi er,zi 0,zi 0,zi 0,zi 0,.slice none 0 0,zi 0,zi 0] 83)) (by simp);obtain⟨o0,_⟩:=cell_of_obj ho 0 rfl;obtain⟨o1,_⟩:=cell_of_obj ho 1 rfl;obtain⟨o2,_⟩:=cell_of_obj ho 2 rfl;obtain⟨o3,_⟩:=cell_of_obj ho 3 rfl;obtain⟨o4,_⟩:=cell_of_obj ho 4 rfl;obtain⟨o5,_⟩:=cell_of_obj ho 5 rfl;obtain⟨o6,_⟩:=cell_of_obj ho 6 rfl;obtain⟨o7,_⟩:=cell_of_obj ho 7 rfl;have HTH:=zH (there_of (T4.out.varOf (k:=w0.heap.size+1) (o:=(.cells #[zi 0,zi 0,zi 0,zi 0,zi 0,.slice none 0 0,zi 0,zi 0] 83)) (by simp)));clear ho;go_wp2_with ((refine wpList_store_mid rfl 83 (.tmp 4) (.tmp 63) rfl (w0.heap.size+1) 0 #[zi er,zi 0,zi 0,zi 0,zi 0,.slice none 0 0,zi 0,zi 0] rfl rfl HTH.out (by kernel_rfl) (by simp[Value.oneCell']) ?_;generalize hws:World.setCells _ _ _ _=ws));obtain⟨hfin,hpl⟩:=plays_of (T4.out.none) (by simp) hws;refine bodyPost_ret (results_cell_row rfl _ _ (w0.heap.size+1) 83 #[zi er,zi 0,zi 0,zi 0,zi 0,.slice none 0 0,zi 0,zi 0] _ _ rfl hfin Tryz.underlying83 rfl (by kernel_rfl)) rfl ?_;exact hpl
theorem entry_sweepY {A0:Book} {σ σ1:St} {w0:World} {pl be:Nat} (s lv ok oy oh ov:Int) (hV:Plan.V ⟨4,s,lv,ok,oy,oh,ov⟩) (hbe:A0.be=be) (hL:Live A0 σ w0) (hf:Fix A0.L w0 pl (playerO be))
 (hc:∀ A w,Live A σ w→A.be=be→Calls Tryz.prog 35 #[.pointer (some ⟨be,0,none⟩)] w fun x w'=>x=.returned (.bool true)∧Gone A w σ1 w'):
 Calls Tryz.prog 27 #[.pointer (some ⟨pl,0,none⟩),.agg #[zi 4,zi s,zi lv,zi ok,zi oy,zi oh,zi ov]] w0 (Plays A0 w0 σ1 0 0 1 0 0 0 0 []):=by
 have HOK:=zH (fun w=>Plan.ok_v _ hV w);have HCE:=fun σ' vs rs w' (T:TV A0 w0 [(w0.heap.size,(.cells #[zi 4,zi s,zi lv,zi ok,zi oy,zi oh,zi ov] 71)),(pl,playerO be)] vs rs σ' w')=>lay8 (cell_of_obj (T.fixOf (k:=pl) (o:=playerO be) (by simp)) 0 rfl).1 (T.fixOf (k:=w0.heap.size) (o:=(.cells #[zi 4,zi s,zi lv,zi ok,zi oy,zi oh,zi ov] 71)) (by simp))
 replace HCE:=zH HCE;have HV:Hid (∀ p:Obj,(w0.heap.size+1+1,p) ∉ [(w0.heap.size+1,(.cells #[zi 0,zi 0,zi 0,zi 0,zi 0,.slice none 0 0,zi 0,zi 0] 83))]):=fun p hm=>by simp at hm
 have T1:Hid (TV A0 w0 [(w0.heap.size,(.cells #[zi 4,zi s,zi lv,zi ok,zi oy,zi oh,zi ov] 71)),(pl,playerO be)] [(w0.heap.size+1+1,(.cells #[zi 0,zi 0,zi 0,zi 0,zi 0,.slice none 0 0,zi 0,zi 0] 83)),(w0.heap.size+1,(.cells #[zi 0,zi 0,zi 0,zi 0,zi 0,.slice none 0 0,zi 0,zi 0] 83))] [] σ (((w0.alloc (.cells #[zi 4,zi s,zi lv,zi ok,zi oy,zi oh,zi ov] 71)).alloc (.cells #[zi 0,zi 0,zi 0,zi 0,zi 0,.slice none 0 0,zi 0,zi 0] 83)).alloc (.cells #[zi 0,zi 0,zi 0,zi 0,zi 0,.slice none 0 0,zi 0,zi 0] 83))):=by
  have h:=(((TV.start hL hf).alloc (.cells #[zi 4,zi s,zi lv,zi ok,zi oy,zi oh,zi ov] 71)).var (.cells #[zi 0,zi 0,zi 0,zi 0,zi 0,.slice none 0 0,zi 0,zi 0] 83)).var (.cells #[zi 0,zi 0,zi 0,zi 0,zi 0,.slice none 0 0,zi 0,zi 0] 83);simp only[size_alloc] at h;exact h
 have HC:Hid (∀ fx vs rs w,TV A0 w0 fx vs rs σ w→Calls Tryz.prog 35 #[.pointer (some ⟨be,0,none⟩)] w fun x w'=>x=.returned (.bool true)∧TV A0 w0 fx vs rs σ1 w'):=fun fx vs rs w T=>T.call (R:=fun x=>x=.returned (.bool true)) fun A l e=>hc A w l (e.trans hbe)
 clear hL hf hbe hc hV;go_enter Tryz.func27,Tryz.ntmps27;go_upto_region 12 with ((go_at_call 66;refine (HOK.out _).mono ?_;rintro e wB ⟨rfl,hb⟩;have T2:=zH (T1.out.below hb);obtain⟨p0,e0,e1,e2,e3,e4,e5,e6⟩:=HCE.out _ _ _ _ T2.out;clear hb T1))
 have T2D:=T2;go_upto_region 14 with ((go_at_call 35;refine (HC.out _ _ _ _ T2D.out).mono ?_;rintro x w3 ⟨rfl,q3⟩;have T3:=zH q3;obtain⟨y0,z0⟩:=cell_of_obj (T3.out.varOf (k:=w0.heap.size+1+1) (o:=(.cells #[zi 0,zi 0,zi 0,zi 0,zi 0,.slice none 0 0,zi 0,zi 0] 83)) (by simp)) 0 rfl;obtain⟨y1,z1⟩:=cell_of_obj (T3.out.varOf (k:=w0.heap.size+1+1) (o:=(.cells #[zi 0,zi 0,zi 0,zi 0,zi 0,.slice none 0 0,zi 0,zi 0] 83)) (by simp)) 1 rfl;obtain⟨y2,z2⟩:=cell_of_obj (T3.out.varOf (k:=w0.heap.size+1+1) (o:=(.cells #[zi 0,zi 0,zi 0,zi 0,zi 0,.slice none 0 0,zi 0,zi 0] 83)) (by simp)) 2 rfl;clear q3 T2 T2D))
 have T4:=zH (T3.out.set HV.out 2 (zi 1));generalize hw4:World.setCell w3 ⟨w0.heap.size+1+1,2,none⟩ (zi 1)=w4 at*;clear hw4;have T4:=zH ((by simpa only[List.setIfInBounds_toArray,List.set_cons_zero,List.set_cons_succ] using T4.out):TV A0 w0 [(w0.heap.size,(.cells #[zi 4,zi s,zi lv,zi ok,zi oy,zi oh,zi ov] 71)),(pl,playerO be)] [(w0.heap.size+1+1,(.cells #[zi 0,zi 0,zi 1,zi 0,zi 0,.slice none 0 0,zi 0,zi 0] 83)),(w0.heap.size+1,(.cells #[zi 0,zi 0,zi 0,zi 0,zi 0,.slice none 0 0,zi 0,zi 0] 83))] [] σ1 w4);have ho:=T4.out.varOf (k:=w0.heap.size+1+1) (o:=(.cells #[zi 0,zi 0,zi 1,zi 0,zi 0,.slice none 0 0,zi 0,zi 0] 83)) (by simp);obtain⟨o0,_⟩:=cell_of_obj ho 0 rfl;obtain⟨o1,_⟩:=cell_of_obj ho 1 rfl;obtain⟨o2,_⟩:=cell_of_obj ho 2 rfl;obtain⟨o3,_⟩:=cell_of_obj ho 3 rfl;obtain⟨o4,_⟩:=cell_of_obj ho 4 rfl;obtain⟨o5,_⟩:=cell_of_obj ho 5 rfl;obtain⟨o6,_⟩:=cell_of_obj ho 6 rfl;obtain⟨o7,_⟩:=cell_of_obj ho 7 rfl;have HTH:=zH (there_of (T4.out.varOf (k:=w0.heap.size+1) (o:=(.cells #[zi 0,zi 0,zi 0,zi 0,zi 0,.slice none 0 0,zi 0,zi 0] 83)) (by simp)));clear ho;go_wp2_with ((refine wpList_store_mid rfl 83 (.tmp 4) (.tmp 63) rfl (w0.heap.size+1) 0 #[zi 0,zi 0,zi 1,zi 0,zi 0,.slice none 0 0,zi 0,zi 0] rfl rfl HTH.out (by kernel_rfl) (by simp[Value.oneCell']) ?_;generalize hws:World.setCells _ _ _ _=ws));obtain⟨hfin,hpl⟩:=plays_of (T4.out.none) (by simp) hws;refine bodyPost_ret (results_cell_row rfl _ _ (w0.heap.size+1) 83 #[zi 0,zi 0,zi 1,zi 0,zi 0,.slice none 0 0,zi 0,zi 0] _ _ rfl hfin Tryz.underlying83 rfl (by kernel_rfl)) rfl ?_;exact hpl
theorem entry_sweepN {A0:Book} {σ σ1:St} {w0:World} {pl be:Nat} (s lv ok oy oh ov:Int) (hV:Plan.V ⟨4,s,lv,ok,oy,oh,ov⟩) (hbe:A0.be=be) (hL:Live A0 σ w0) (hf:Fix A0.L w0 pl (playerO be))
 (hc:∀ A w,Live A σ w→A.be=be→Calls Tryz.prog 35 #[.pointer (some ⟨be,0,none⟩)] w fun x w'=>x=.returned (.bool false)∧Gone A w σ1 w'):
 Calls Tryz.prog 27 #[.pointer (some ⟨pl,0,none⟩),.agg #[zi 4,zi s,zi lv,zi ok,zi oy,zi oh,zi ov]] w0 (Plays A0 w0 σ1 0 0 0 0 0 0 0 []):=by
 have HOK:=zH (fun w=>Plan.ok_v _ hV w);have HCE:=fun σ' vs rs w' (T:TV A0 w0 [(w0.heap.size,(.cells #[zi 4,zi s,zi lv,zi ok,zi oy,zi oh,zi ov] 71)),(pl,playerO be)] vs rs σ' w')=>lay8 (cell_of_obj (T.fixOf (k:=pl) (o:=playerO be) (by simp)) 0 rfl).1 (T.fixOf (k:=w0.heap.size) (o:=(.cells #[zi 4,zi s,zi lv,zi ok,zi oy,zi oh,zi ov] 71)) (by simp))
 replace HCE:=zH HCE;have HV:Hid (∀ p:Obj,(w0.heap.size+1+1,p) ∉ [(w0.heap.size+1,(.cells #[zi 0,zi 0,zi 0,zi 0,zi 0,.slice none 0 0,zi 0,zi 0] 83))]):=fun p hm=>by simp at hm
 have T1:Hid (TV A0 w0 [(w0.heap.size,(.cells #[zi 4,zi s,zi lv,zi ok,zi oy,zi oh,zi ov] 71)),(pl,playerO be)] [(w0.heap.size+1+1,(.cells #[zi 0,zi 0,zi 0,zi 0,zi 0,.slice none 0 0,zi 0,zi 0] 83)),(w0.heap.size+1,(.cells #[zi 0,zi 0,zi 0,zi 0,zi 0,.slice none 0 0,zi 0,zi 0] 83))] [] σ (((w0.alloc (.cells #[zi 4,zi s,zi lv,zi ok,zi oy,zi oh,zi ov] 71)).alloc (.cells #[zi 0,zi 0,zi 0,zi 0,zi 0,.slice none 0 0,zi 0,zi 0] 83)).alloc (.cells #[zi 0,zi 0,zi 0,zi 0,zi 0,.slice none 0 0,zi 0,zi 0] 83))):=by
  have h:=(((TV.start hL hf).alloc (.cells #[zi 4,zi s,zi lv,zi ok,zi oy,zi oh,zi ov] 71)).var (.cells #[zi 0,zi 0,zi 0,zi 0,zi 0,.slice none 0 0,zi 0,zi 0] 83)).var (.cells #[zi 0,zi 0,zi 0,zi 0,zi 0,.slice none 0 0,zi 0,zi 0] 83);simp only[size_alloc] at h;exact h
 have HC:Hid (∀ fx vs rs w,TV A0 w0 fx vs rs σ w→Calls Tryz.prog 35 #[.pointer (some ⟨be,0,none⟩)] w fun x w'=>x=.returned (.bool false)∧TV A0 w0 fx vs rs σ1 w'):=fun fx vs rs w T=>T.call (R:=fun x=>x=.returned (.bool false)) fun A l e=>hc A w l (e.trans hbe)
 clear hL hf hbe hc hV;go_enter Tryz.func27,Tryz.ntmps27;go_upto_region 12 with ((go_at_call 66;refine (HOK.out _).mono ?_;rintro e wB ⟨rfl,hb⟩;have T2:=zH (T1.out.below hb);obtain⟨p0,e0,e1,e2,e3,e4,e5,e6⟩:=HCE.out _ _ _ _ T2.out;clear hb T1))
 have T2D:=T2;go_upto_region 14 with ((go_at_call 35;refine (HC.out _ _ _ _ T2D.out).mono ?_;rintro x w3 ⟨rfl,q3⟩;have T3:=zH q3;obtain⟨y0,z0⟩:=cell_of_obj (T3.out.varOf (k:=w0.heap.size+1+1) (o:=(.cells #[zi 0,zi 0,zi 0,zi 0,zi 0,.slice none 0 0,zi 0,zi 0] 83)) (by simp)) 0 rfl;obtain⟨y1,z1⟩:=cell_of_obj (T3.out.varOf (k:=w0.heap.size+1+1) (o:=(.cells #[zi 0,zi 0,zi 0,zi 0,zi 0,.slice none 0 0,zi 0,zi 0] 83)) (by simp)) 1 rfl;obtain⟨y2,z2⟩:=cell_of_obj (T3.out.varOf (k:=w0.heap.size+1+1) (o:=(.cells #[zi 0,zi 0,zi 0,zi 0,zi 0,.slice none 0 0,zi 0,zi 0] 83)) (by simp)) 2 rfl;clear q3 T2 T2D))
 have T4:=T3;generalize w3=w4 at*;have ho:=T4.out.varOf (k:=w0.heap.size+1+1) (o:=(.cells #[zi 0,zi 0,zi 0,zi 0,zi 0,.slice none 0 0,zi 0,zi 0] 83)) (by simp);obtain⟨o0,_⟩:=cell_of_obj ho 0 rfl;obtain⟨o1,_⟩:=cell_of_obj ho 1 rfl;obtain⟨o2,_⟩:=cell_of_obj ho 2 rfl;obtain⟨o3,_⟩:=cell_of_obj ho 3 rfl;obtain⟨o4,_⟩:=cell_of_obj ho 4 rfl;obtain⟨o5,_⟩:=cell_of_obj ho 5 rfl;obtain⟨o6,_⟩:=cell_of_obj ho 6 rfl;obtain⟨o7,_⟩:=cell_of_obj ho 7 rfl;have HTH:=zH (there_of (T4.out.varOf (k:=w0.heap.size+1) (o:=(.cells #[zi 0,zi 0,zi 0,zi 0,zi 0,.slice none 0 0,zi 0,zi 0] 83)) (by simp)));clear ho;go_wp2_with ((refine wpList_store_mid rfl 83 (.tmp 4) (.tmp 63) rfl (w0.heap.size+1) 0 #[zi 0,zi 0,zi 0,zi 0,zi 0,.slice none 0 0,zi 0,zi 0] rfl rfl HTH.out (by kernel_rfl) (by simp[Value.oneCell']) ?_;generalize hws:World.setCells _ _ _ _=ws));obtain⟨hfin,hpl⟩:=plays_of (T4.out.none) (by simp) hws;refine bodyPost_ret (results_cell_row rfl _ _ (w0.heap.size+1) 83 #[zi 0,zi 0,zi 0,zi 0,zi 0,.slice none 0 0,zi 0,zi 0] _ _ rfl hfin Tryz.underlying83 rfl (by kernel_rfl)) rfl ?_;exact hpl
theorem entry_step {A0:Book} {σ σ1:St} {w0:World} {pl be:Nat} (s lv ok oy oh ov:Int) (hV:Plan.V ⟨3,s,lv,ok,oy,oh,ov⟩) (hbe:A0.be=be) (hL:Live A0 σ w0) (hf:Fix A0.L w0 pl (playerO be)) {er kd re rv rn ro:Int} {ps:List (Nat×Nat)}
 (hc:∀ A w,Live A σ w→A.be=be→Calls Tryz.prog 34 #[.pointer (some ⟨be,0,none⟩),zi s] w fun x w'=>∃ A' vp,x=.returned (.tuple #[.agg #[zi kd,zi re,zi rv,vp,zi rn,zi ro],zi er])∧FRow A'.L w' 2 vp (pairCs ps)∧Live A' σ1 w'∧Grow A.L w A'.L w'∧A'.be=A.be):
 Calls Tryz.prog 27 #[.pointer (some ⟨pl,0,none⟩),.agg #[zi 3,zi s,zi lv,zi ok,zi oy,zi oh,zi ov]] w0 (Plays A0 w0 σ1 er 0 kd re rv rn ro ps):=by
 have HOK:=zH (fun w=>Plan.ok_v _ hV w);have HCE:=fun σ' vs rs w' (T:TV A0 w0 [(w0.heap.size,(.cells #[zi 3,zi s,zi lv,zi ok,zi oy,zi oh,zi ov] 71)),(pl,playerO be)] vs rs σ' w')=>lay8 (cell_of_obj (T.fixOf (k:=pl) (o:=playerO be) (by simp)) 0 rfl).1 (T.fixOf (k:=w0.heap.size) (o:=(.cells #[zi 3,zi s,zi lv,zi ok,zi oy,zi oh,zi ov] 71)) (by simp))
 replace HCE:=zH HCE;have HV:Hid (∀ p:Obj,(w0.heap.size+1+1,p) ∉ [(w0.heap.size+1,(.cells #[zi 0,zi 0,zi 0,zi 0,zi 0,.slice none 0 0,zi 0,zi 0] 83))]):=fun p hm=>by simp at hm
 have T1:Hid (TV A0 w0 [(w0.heap.size,(.cells #[zi 3,zi s,zi lv,zi ok,zi oy,zi oh,zi ov] 71)),(pl,playerO be)] [(w0.heap.size+1+1,(.cells #[zi 0,zi 0,zi 0,zi 0,zi 0,.slice none 0 0,zi 0,zi 0] 83)),(w0.heap.size+1,(.cells #[zi 0,zi 0,zi 0,zi 0,zi 0,.slice none 0 0,zi 0,zi 0] 83))] [] σ (((w0.alloc (.cells #[zi 3,zi s,zi lv,zi ok,zi oy,zi oh,zi ov] 71)).alloc (.cells #[zi 0,zi 0,zi 0,zi 0,zi 0,.slice none 0 0,zi 0,zi 0] 83)).alloc (.cells #[zi 0,zi 0,zi 0,zi 0,zi 0,.slice none 0 0,zi 0,zi 0] 83))):=by
  have h:=(((TV.start hL hf).alloc (.cells #[zi 3,zi s,zi lv,zi ok,zi oy,zi oh,zi ov] 71)).var (.cells #[zi 0,zi 0,zi 0,zi 0,zi 0,.slice none 0 0,zi 0,zi 0] 83)).var (.cells #[zi 0,zi 0,zi 0,zi 0,zi 0,.slice none 0 0,zi 0,zi 0] 83);simp only[size_alloc] at h;exact h
 have HC:Hid (∀ fx vs rs w,TV A0 w0 fx vs rs σ w→Calls Tryz.prog 34 #[.pointer (some ⟨be,0,none⟩),zi s] w fun x w'=>∃ vp,x=.returned (.tuple #[.agg #[zi kd,zi re,zi rv,vp,zi rn,zi ro],zi er])∧TV A0 w0 fx vs ((vp,pairCs ps)::rs) σ1 w'):=fun fx vs rs w T=>T.callRow (R:=fun x vp=>x=.returned (.tuple #[.agg #[zi kd,zi re,zi rv,vp,zi rn,zi ro],zi er])) fun A l e=>hc A w l (e.trans hbe)
 clear hL hf hbe hc hV;go_enter Tryz.func27,Tryz.ntmps27;go_upto_region 10 with ((go_at_call 66;refine (HOK.out _).mono ?_;rintro e wB ⟨rfl,hb⟩;have T2:=zH (T1.out.below hb);obtain⟨p0,e0,e1,e2,e3,e4,e5,e6⟩:=HCE.out _ _ _ _ T2.out;clear hb T1))
 have T2D:=zH (T2.out.below (Below.refl _ _).drew);refine wp_region_held_drew (S:=fun w'=>w'.cell? ⟨pl,0,none⟩=some (.pointer (some ⟨be,0,none⟩))∧w'.cell? ⟨w0.heap.size,0,none⟩=some (zi 3)∧w'.cell? ⟨w0.heap.size,1,none⟩=some (zi s)∧w'.cell? ⟨w0.heap.size,2,none⟩=some (zi lv)∧w'.cell? ⟨w0.heap.size,3,none⟩=some (zi ok)∧w'.cell? ⟨w0.heap.size,4,none⟩=some (zi oy)∧w'.cell? ⟨w0.heap.size,5,none⟩=some (zi oh)∧w'.cell? ⟨w0.heap.size,6,none⟩=some (zi ov)) (by kernel_rfl) ?_ (fun hHeld=>?_)
 · (try dsimp only);exact⟨p0,e0,e1,e2,e3,e4,e5,e6⟩
 clear p0 e0 e1 e2 e3 e4 e5 e6;generalize wB.drew=vd at*;refine zqt (i:=0) rfl hHeld ?_
 (try simp only[zqa,zqb,zqc,Act.put,zqd,zqe,zqf])
 refine zqt (i:=1) rfl hHeld ?_
 (try simp only[zqa,zqb,zqc,Act.put,zqd,zqe,zqf])
 refine zqt (i:=2) rfl hHeld ?_
 (try simp only[zqa,zqb,zqc,Act.put,zqd,zqe,zqf])
 refine zqt (i:=3) rfl hHeld ?_
 (try simp only[zqa,zqb,zqc,Act.put,zqd,zqe,zqf])
 refine zqt (i:=4) rfl hHeld ?_
 (try simp only[zqa,zqb,zqc,Act.put,zqd,zqe,zqf])
 refine zqt (i:=5) rfl hHeld ?_
 (try simp only[zqa,zqb,zqc,Act.put,zqd,zqe,zqf])
 refine wpAnyH_ready (rs:=[6]) (by kernel_rfl) (by simp) ?_;refine AllReadyH.cons (o:=_) rfl (fun K hK=>?_) (AllReadyH.nil);go_simp
 (go_at_call 34;refine (HC.out _ _ _ _ T2D.out).mono ?_;rintro x w3 ⟨vp,rfl,q3⟩;have T3:=zH q3;obtain⟨y0,z0⟩:=cell_of_obj (T3.out.varOf (k:=w0.heap.size+1+1) (o:=(.cells #[zi 0,zi 0,zi 0,zi 0,zi 0,.slice none 0 0,zi 0,zi 0] 83)) (by simp)) 0 rfl;obtain⟨y1,z1⟩:=cell_of_obj (T3.out.varOf (k:=w0.heap.size+1+1) (o:=(.cells #[zi 0,zi 0,zi 0,zi 0,zi 0,.slice none 0 0,zi 0,zi 0] 83)) (by simp)) 1 rfl;obtain⟨y2,z2⟩:=cell_of_obj (T3.out.varOf (k:=w0.heap.size+1+1) (o:=(.cells #[zi 0,zi 0,zi 0,zi 0,zi 0,.slice none 0 0,zi 0,zi 0] 83)) (by simp)) 2 rfl;obtain⟨va,vn,vc,rfl⟩:=T3.out.rowOf List.mem_cons_self;have HTD:=zH (there_mid (T3.out.varOf (k:=w0.heap.size+1+1) (o:=(.cells #[zi 0,zi 0,zi 0,zi 0,zi 0,.slice none 0 0,zi 0,zi 0] 83)) (by simp)));clear q3 T2D)
 refine hK.out _ _ ?_ (fun hHeld=>?_)
 · (try dsimp only);exact HCE.out _ _ _ _ T3.out
 clear hK K
 (try simp only[zqa,zqb,zqc,Act.put,zqd,zqe,zqf])
 refine zqt (i:=7) rfl hHeld ?_
 (try simp only[zqa,zqb,zqc,Act.put,zqd,zqe,zqf])
 refine zqt (i:=8) rfl hHeld ?_
 (try simp only[zqa,zqb,zqc,Act.put,zqd,zqe,zqf])
 refine zqt (i:=9) rfl hHeld ?_
 (try simp only[zqa,zqb,zqc,Act.put,zqd,zqe,zqf])
 refine zqt (i:=10) rfl hHeld ?_
 (try simp only[zqa,zqb,zqc,Act.put,zqd,zqe,zqf])
 refine wpAnyH_ready (rs:=[11]) (by kernel_rfl) (by simp) ?_;refine AllReadyH.cons (o:=_) rfl (fun K hK=>?_) (AllReadyH.nil);rw[if_pos (by rfl)];refine wp_store_mid 81 (.tmp 52) (.tmp 50) rfl (w0.heap.size+1+1) 2 #[zi kd,zi re,zi rv,.slice va vn vc,zi rn,zi ro] rfl rfl (HTD.out 2 6 (by simp)) (by kernel_rfl) (by simp[Value.oneCell']) ?_;have T3a:=zH (T3.out.mid HV.out (zi kd) (zi re) (zi rv) (.slice va vn vc) (zi rn) (zi ro));generalize World.setCells _ _ _ _=w3a at*;clear y0 z0 y1 z1 y2 z2 HTD;obtain⟨y0,z0⟩:=cell_of_obj (T3a.out.varOf (k:=w0.heap.size+1+1) (o:=(.cells #[zi 0,zi 0,zi kd,zi re,zi rv,.slice va vn vc,zi rn,zi ro] 83)) (by simp)) 0 rfl;refine hK.out _ _ ?_ (fun hHeld=>?_)
 · (try dsimp only);exact HCE.out _ _ _ _ T3a.out
 clear hK K
 (try simp only[zqa,zqb,zqc,Act.put,zqd,zqe,zqf])
 refine wpAnyH_ready (rs:=[12]) (by kernel_rfl) (by simp) ?_;refine AllReadyH.cons (o:=_) rfl (fun K hK=>?_) (AllReadyH.nil);go_simp;refine hK.out _ _ ?_ (fun hHeld=>?_)
 · (try dsimp only);exact HCE.out _ _ _ _ T3a.out
 clear hK K
 (try simp only[zqa,zqb,zqc,Act.put,zqd,zqe,zqf])
 refine wpAnyH_ready (rs:=[13]) (by kernel_rfl) (by simp) ?_;refine AllReadyH.cons (o:=_) rfl (fun K hK=>?_) (AllReadyH.nil);go_simp;have T4:=zH (T3a.out.set HV.out 0 (zi er));generalize World.setCell _ _ _=w4 at*;refine hK.out _ _ ?_ (fun hHeld=>?_)
 · (try dsimp only);exact HCE.out _ _ _ _ T4.out
 clear hK K
 (try simp only[zqa,zqb,zqc,Act.put,zqd,zqe,zqf])
 refine wpAnyH_done (by kernel_rfl) ?_ _;clear hHeld;have T4:=zH ((by simpa only[List.setIfInBounds_toArray,List.set_cons_zero,List.set_cons_succ] using T4.out):TV A0 w0 [(w0.heap.size,(.cells #[zi 3,zi s,zi lv,zi ok,zi oy,zi oh,zi ov] 71)),(pl,playerO be)] [(w0.heap.size+1+1,(.cells #[zi er,zi 0,zi kd,zi re,zi rv,.slice va vn vc,zi rn,zi ro] 83)),(w0.heap.size+1,(.cells #[zi 0,zi 0,zi 0,zi 0,zi 0,.slice none 0 0,zi 0,zi 0] 83))] [(.slice va vn vc,pairCs ps)] σ1 w4);have ho:=T4.out.varOf (k:=w0.heap.size+1+1) (o:=(.cells #[zi er,zi 0,zi kd,zi re,zi rv,.slice va vn vc,zi rn,zi ro] 83)) (by simp);obtain⟨o0,_⟩:=cell_of_obj ho 0 rfl;obtain⟨o1,_⟩:=cell_of_obj ho 1 rfl;obtain⟨o2,_⟩:=cell_of_obj ho 2 rfl;obtain⟨o3,_⟩:=cell_of_obj ho 3 rfl;obtain⟨o4,_⟩:=cell_of_obj ho 4 rfl;obtain⟨o5,_⟩:=cell_of_obj ho 5 rfl;obtain⟨o6,_⟩:=cell_of_obj ho 6 rfl;obtain⟨o7,_⟩:=cell_of_obj ho 7 rfl;have HTH:=zH (there_of (T4.out.varOf (k:=w0.heap.size+1) (o:=(.cells #[zi 0,zi 0,zi 0,zi 0,zi 0,.slice none 0 0,zi 0,zi 0] 83)) (by simp)));clear ho;go_wp2_with ((refine wpList_store_mid rfl 83 (.tmp 4) (.tmp 63) rfl (w0.heap.size+1) 0 #[zi er,zi 0,zi kd,zi re,zi rv,.slice va vn vc,zi rn,zi ro] rfl rfl HTH.out (by kernel_rfl) (by simp[Value.oneCell']) ?_;generalize hws:World.setCells _ _ _ _=ws));obtain⟨hfin,hpl⟩:=plays_of (T4.out) (by simp) hws;refine bodyPost_ret (results_cell_row rfl _ _ (w0.heap.size+1) 83 #[zi er,zi 0,zi kd,zi re,zi rv,.slice va vn vc,zi rn,zi ro] _ _ rfl hfin Tryz.underlying83 rfl (by kernel_rfl)) rfl ?_;exact hpl
theorem entry_bad {A0:Book} {σ:St} {w0:World} {pl be:Nat} (k s lv ok oy oh ov:Int) (hV:¬ Plan.V ⟨k,s,lv,ok,oy,oh,ov⟩) (hi:Plan.I64 ⟨k,s,lv,ok,oy,oh,ov⟩) (hbe:A0.be=be) (hL:Live A0 σ w0) (hf:Fix A0.L w0 pl (playerO be)):
 Calls Tryz.prog 27 #[.pointer (some ⟨pl,0,none⟩),.agg #[zi k,zi s,zi lv,zi ok,zi oy,zi oh,zi ov]] w0 (Plays A0 w0 σ 9 0 0 0 0 0 0 []):=by
 have HOK:=zH (fun w=>Plan.ok_nv _ hV hi w);have T1:Hid (TV A0 w0 [(w0.heap.size,(.cells #[zi k,zi s,zi lv,zi ok,zi oy,zi oh,zi ov] 71)),(pl,playerO be)] [(w0.heap.size+1+1,(.cells #[zi 0,zi 0,zi 0,zi 0,zi 0,.slice none 0 0,zi 0,zi 0] 83)),(w0.heap.size+1,(.cells #[zi 0,zi 0,zi 0,zi 0,zi 0,.slice none 0 0,zi 0,zi 0] 83))] [] σ (((w0.alloc (.cells #[zi k,zi s,zi lv,zi ok,zi oy,zi oh,zi ov] 71)).alloc (.cells #[zi 0,zi 0,zi 0,zi 0,zi 0,.slice none 0 0,zi 0,zi 0] 83)).alloc (.cells #[zi 0,zi 0,zi 0,zi 0,zi 0,.slice none 0 0,zi 0,zi 0] 83))):=by
  have h:=(((TV.start hL hf).alloc (.cells #[zi k,zi s,zi lv,zi ok,zi oy,zi oh,zi ov] 71)).var (.cells #[zi 0,zi 0,zi 0,zi 0,zi 0,.slice none 0 0,zi 0,zi 0] 83)).var (.cells #[zi 0,zi 0,zi 0,zi 0,zi 0,.slice none 0 0,zi 0,zi 0] 83);simp only[size_alloc] at h;exact h
 clear hL hf hbe hV hi;go_enter Tryz.func27,Tryz.ntmps27;go_wp2_with (first|(go_at_call 66;refine (HOK.out _).mono ?_;rintro e wB ⟨rfl,hb⟩;have T4:=zH (T1.out.below hb);have HTH:=zH (there_of (T4.out.varOf (k:=w0.heap.size+1) (o:=(.cells #[zi 0,zi 0,zi 0,zi 0,zi 0,.slice none 0 0,zi 0,zi 0] 83)) (by simp)));clear hb T1)|(refine wpList_store_mid rfl 83 (.tmp 4) (.tmp 9) rfl (w0.heap.size+1) 0 #[zi 9,zi 0,zi 0,zi 0,zi 0,.slice none 0 0,zi 0,zi 0] rfl rfl HTH.out (by kernel_rfl) (by simp[Value.oneCell']) ?_;generalize hws:World.setCells _ _ _ _=ws));obtain⟨hfin,hpl⟩:=plays_of (T4.out.none) (by simp) hws;refine bodyPost_ret (results_cell_row rfl _ _ (w0.heap.size+1) 83 #[zi 9,zi 0,zi 0,zi 0,zi 0,.slice none 0 0,zi 0,zi 0] _ _ rfl hfin Tryz.underlying83 rfl (by kernel_rfl)) rfl ?_;exact hpl
section
variable {be ce:Nat} {w0 w w':World} {ks:List Kept} {vs:List (Nat×Obj)} {σ τ:St}
theorem E2.set {g:Nat} {cs:Array Value} {T:TypeId} (h:E2 be ce w0 ks ((g,.cells cs T)::vs) σ τ w) (hv:∀ p,(g,p) ∉ vs) (i:Nat) (v:Value):E2 be ce w0 ks ((g,.cells (cs.setIfInBounds i v) T)::vs) σ τ (w.setCell ⟨g,i,none⟩ v):=
 h.put hv (But.setCell w ⟨g,i,none⟩ v) (heap_setCell_same (h.varOf List.mem_cons_self) i v)
theorem E2.mid {g:Nat} {a0 a1 a2 a3 a4 a5 a6 a7:Value} {T:TypeId} (h:E2 be ce w0 ks ((g,.cells #[a0,a1,a2,a3,a4,a5,a6,a7] T)::vs) σ τ w) (hv:∀ p,(g,p) ∉ vs) (v2 v3 v4 v5 v6 v7:Value):
 E2 be ce w0 ks ((g,.cells #[a0,a1,v2,v3,v4,v5,v6,v7] T)::vs) σ τ (w.setCells g 2 [v2,v3,v4,v5,v6,v7]):=
 h.put hv (But.setCells g _ 2 w) (heap_mid8 (h.varOf List.mem_cons_self) v2 v3 v4 v5 v6 v7)
theorem E2.all8 {g:Nat} {a0 a1 a2 a3 a4 a5 a6 a7:Value} {T:TypeId} (h:E2 be ce w0 ks ((g,.cells #[a0,a1,a2,a3,a4,a5,a6,a7] T)::vs) σ τ w) (hv:∀ p,(g,p) ∉ vs) (v0 v1 v2 v3 v4 v5 v6 v7:Value):
 E2 be ce w0 ks ((g,.cells #[v0,v1,v2,v3,v4,v5,v6,v7] T)::vs) σ τ (w.setCells g 0 [v0,v1,v2,v3,v4,v5,v6,v7]):=
 h.put hv (But.setCells g _ 0 w) (heap_setCells8 (h.varOf List.mem_cons_self) v0 v1 v2 v3 v4 v5 v6 v7)
theorem E2.now (h:E2 be ce w0 ks vs σ τ w) (hx:σ.word 0<18446744073709551616):
 Calls Tryz.prog 19 #[.pointer (some ⟨be,0,none⟩)] w fun e w'=>e=.returned (zu (σ.now:Int))∧E2 be ce w0 ks vs σ τ w':=
 h.look (R:=fun e=>e=.returned (zu (σ.now:Int))) fun A l e=>by
  have h:=now_any l.rep hx;rw[e] at h;exact h
theorem used_live {A:Book} (hL:Live A σ w) (hu:σ.free.length<100000∧σ.list.free.length+σ.worn≤σ.slots):
 Calls Tryz.prog 36 #[.pointer (some ⟨A.be,0,none⟩)] w fun e w'=>e=.returned (zi (σ.used:Int))∧∃ A',Live A' σ.list w'∧Grow A.L w A'.L w'∧A'.be=A.be:=by
 refine (used_any hL.rep hL.mp hu.1 hu.2).mono ?_;rintro e w' ⟨rfl,A',⟨⟨L,v,m,rfl⟩,pm⟩,hR',g'⟩;have hc:σ.list.calls=σ.calls:=by unfold St.list;split<;>rfl
 have ek:∀ s,kp {A with L:=L,vfree:=v,mp:=m} σ.list s=kp A σ s:=fun s=>by unfold kp St.c;rw[hc]
 refine⟨rfl,_,(⟨hR',pm.trans hL.mp,hL.mt,fun s h c hcs=>?_,fun s h hcs=>hL.idle s h (by rw[←hc];exact hcs),hL.sx.keep rfl (sw_list _) g'⟩:Live {A with L:=L,vfree:=v,mp:=m} σ.list w'),g',rfl⟩;obtain⟨e1,k,e2,e3⟩:=hL.call s h c (by rw[←hc];exact hcs);exact⟨e1,k,e2,by rw[ek];exact e3.grow g'⟩
theorem E2.used (h:E2 be ce w0 ks vs σ τ w) (hu:σ.free.length<100000∧σ.list.free.length+σ.worn≤σ.slots):
 Calls Tryz.prog 36 #[.pointer (some ⟨be,0,none⟩)] w fun e w'=>e=.returned (zi (σ.used:Int))∧E2 be ce w0 ks vs σ.list τ w':=
 h.left (R:=fun e=>e=.returned (zi (σ.used:Int))) fun A l e=>by
  have h:=used_live l hu;rw[e] at h ⊢;exact h
theorem E2.now1 {nw:Nat} (hn:nw=σ.now) (hx:σ.word 0<18446744073709551616) (h:E2 be ce w0 ks vs σ τ w):Calls Tryz.prog 19 #[.pointer (some ⟨be,0,none⟩)] w fun e w'=>e=.returned (zu (nw:Int))∧E2 be ce w0 ks vs σ τ w':=by subst hn;exact h.now hx
theorem E2.now2 {nw:Nat} (hn:nw=τ.now) (hx:τ.word 0<18446744073709551616) (h:E2 be ce w0 ks vs σ τ w):Calls Tryz.prog 19 #[.pointer (some ⟨ce,0,none⟩)] w fun e w'=>e=.returned (zu (nw:Int))∧E2 be ce w0 ks vs σ τ w':=(E2.now1 hn hx h.symm).mono fun e w' h=>⟨h.1,h.2.symm⟩
theorem E2.used1 {us:Nat} (hn:us=σ.used) (hu:σ.free.length<100000∧σ.list.free.length+σ.worn≤σ.slots) (h:E2 be ce w0 ks vs σ τ w):Calls Tryz.prog 36 #[.pointer (some ⟨be,0,none⟩)] w fun e w'=>e=.returned (zi (us:Int))∧E2 be ce w0 ks vs σ.list τ w':=by subst hn;exact h.used hu
theorem E2.used2 {us:Nat} (hn:us=τ.used) (hu:τ.free.length<100000∧τ.list.free.length+τ.worn≤τ.slots) (h:E2 be ce w0 ks vs σ τ w):Calls Tryz.prog 36 #[.pointer (some ⟨ce,0,none⟩)] w fun e w'=>e=.returned (zi (us:Int))∧E2 be ce w0 ks vs σ τ.list w':=(E2.used1 hn hu h.symm).mono fun e w' h=>⟨h.1,h.2.symm⟩
theorem E2.tale (h:E2 be ce w0 ks vs σ τ w) (h1:σ.tale.length<100000) (h2:∀ e∈σ.tale,e.res.pairs.length≤64):
 Calls Tryz.prog 15 #[.pointer (some ⟨be,0,none⟩)] w fun e w'=>∃ v cs,e=.returned v∧Ow.Row w' 0 12 v cs∧EvR w' σ.tale cs∧Below w.heap.size w w':=by
 obtain⟨A,B,rfl,e2,t,g1,g2,k1,k2⟩:=h.ex;refine (tale_any t.a.rep h1 (fun e he=>Nat.le_trans (h2 e he) (by decide))).mono ?_;rintro e w' ⟨v,cs,rfl,ho,hv,hb⟩;exact⟨v,cs,rfl,row_base (own_row ho),hv.evR,hb⟩
theorem kept_obj {L:Lab} {w:World} {k:Nat} {o:Obj}:∀ {ks:List Kept},Kepts L w ks→Kept.obj k o∈ks→Fix L w k o
 |[],_,h=>by cases h
 |x::ks,t,h=>by
  rcases List.mem_cons.1 h with rfl|h
  · exact t.1
  · exact kept_obj t.2 h
end
def Ent (be pl:Nat) (σ σ1:St) (e:Plan.En) (er id kd re rv rn ro:Int) (ps:List (Nat×Nat)):Prop:=∀ A w,A.be=be→Live A σ w→Fix A.L w pl (playerO be)→Calls Tryz.prog 27 #[.pointer (some ⟨pl,0,none⟩),Plan.enV e] w (Plays A w σ1 er id kd re rv rn ro ps)
theorem E2.entry {be ce pl pn:Nat} {w0 w:World} {ks:List Kept} {vs:List (Nat×Obj)} {σ σ1 τ:St} {e:Plan.En} {er id kd re rv rn ro:Int} {ps:List (Nat×Nat)} (hE:Ent be pl σ σ1 e er id kd re rv rn ro ps) (hpn:pn=ps.length) (h:E2 be ce w0 ks vs σ τ w) (hp:.obj pl (playerO be)∈ks):
 Calls Tryz.prog 27 #[.pointer (some ⟨pl,0,none⟩),Plan.enV e] w fun x w'=>∃ va vc,x=.returned (.agg #[zi er,zi id,zi kd,zi re,zi rv,.slice va pn vc,zi rn,zi ro])∧E2 be ce w0 (.row 2 (.slice va pn vc) (pairCs ps)::ks) vs σ1 τ w':=by
 subst hpn;refine (h.leftRowK (R:=fun x vp=>x=.returned (.agg #[zi er,zi id,zi kd,zi re,zi rv,vp,zi rn,zi ro])) (σ':=σ1) (size:=2) (xs:=pairCs ps) fun A l eb k=>(hE A w eb l (kept_obj k hp)).mono ?_).mono ?_
 · rintro x w' ⟨A',vp,h1,h2,h3,h4,h5⟩
   exact⟨A',vp,h1,h2,h3,h4,h5⟩
 · rintro x w' ⟨vp,rfl,q⟩
   obtain⟨a,n,c,rfl,hn,hc,hm,h5⟩:=q.rowOf (List.mem_cons_self);rw[pairCs_len] at hn;obtain rfl:n=ps.length:=by omega
   exact⟨a,c,rfl,q⟩
theorem rowNil (w:World):Ow.Row w 0 2 (.slice none 0 0) (pairCs []):=⟨none,0,0,rfl,rfl,by omega,by unfold maxLen;omega,.inl rfl⟩
theorem list_made (σ:St):σ.list.made=σ.made:=(Cw.list_txns σ).2.2.2.2.2.1
theorem rok_v (e:Plan.En) (h:Plan.V e) (w:World):Calls Tryz.prog 23 #[Plan.enV e] w fun z w'=>z=.returned (.bool true)∧Below w.heap.size w w':=by
 obtain⟨b,hb,hc⟩:=Plan.rok_any e w
 rwa [hb.2 h] at hc
theorem rok_nv (e:Plan.En) (h:¬ Plan.V e) (w:World):Calls Tryz.prog 23 #[Plan.enV e] w fun z w'=>z=.returned (.bool false)∧Below w.heap.size w w':=by
 obtain⟨b,hb,hc⟩:=Plan.rok_any e w
 cases b with
 |true=>exact absurd (hb.1 rfl) h
 |false=>exact hc
theorem row_entW {w:World} {v:Value} {l:List Plan.En} {base:Nat} (h:Ow.Row w base 7 v (Plan.flatE l)):∃ a cap,v=.slice a l.length cap∧∀ i e,l[i]? =some e→∃ g off,a=some ⟨g,off,none⟩∧∀ f u,f<7→(Plan.cellsE e)[f]? =some u→w.cell? ⟨g,off+(i*7+f),none⟩=some u:=by
 obtain⟨a,n,cap,rfl,hn,hc,hm,h5⟩:=h;rw[Plan.flatE_length] at hn;obtain rfl:n=l.length:=by omega
 refine⟨a,cap,rfl,fun i e hi=>?_⟩;have hl:i<l.length:=(List.getElem?_eq_some_iff.1 hi).1
 rcases h5 with h5|⟨g,off,rfl,_,hg,hcell⟩
 · omega
 · refine⟨g,off,rfl,fun f u hf hu=>?_⟩
   have:=Plan.row_cell hcell i hl e f hf;rw[this];have h6:l.getD i e=e:=by rw[List.getD_eq_getElem?_getD,hi];rfl
   rw[h6];exact hu
def aw26:Option (List Nat):=
 match beginOk (new 8 50) 0 1 with
 |some (σ1,1)=>match runEnd (List.range 8) (mostOf σ1.live.length) 1000 σ1 0 with
  |some (σ2,_,true)=>if σ2.tale.length<100000∧(∀ e∈σ2.tale,e.res.pairs.length≤64) then some (σ2.tale.map (·.kind)) else none
  |_=>none
 |_=>none
theorem aw26_ok:aw26=some [1,3,5]:=by decide +kernel
theorem aw26_run:∃ σ1 σ2 n,beginOk (new 8 50) 0 1=some (σ1,1)∧runEnd (List.range 8) (mostOf σ1.live.length) 1000 σ1 0=some (σ2,n,true)∧σ2.tale.length<100000∧(∀ e∈σ2.tale,e.res.pairs.length≤64)∧σ2.tale.map (·.kind)=[1,3,5]:=by
 have h:=aw26_ok;unfold aw26 at h
 split at h
 · rename_i σ1 h1
   split at h
   · rename_i σ2 n h2
     split at h
     · rename_i h3
       exact⟨σ1,σ2,n,h1,h2,h3.1,h3.2,Option.some.inj h⟩
     · cases h
   · cases h
 · cases h
theorem infoPd:(Tryz.prog.info? 83).map (fun i=>(i.zero,i.size,i.bytes))=some (some (.agg #[zi 0,zi 0,zi 0,zi 0,zi 0,.slice none 0 0,zi 0,zi 0]),8,80):=by kernel_rfl
theorem EKt.entry {be pl pn:Nat} {w0 w:World} {ks:List Kept} {σ σ1:St} {e:Plan.En} {er id kd re rv rn ro:Int} {ps:List (Nat×Nat)} (hE:Ent be pl σ σ1 e er id kd re rv rn ro ps) (hpn:pn=ps.length) (h:EKt be w0 ks σ w) (hp:.obj pl (playerO be)∈ks):
 Calls Tryz.prog 27 #[.pointer (some ⟨pl,0,none⟩),Plan.enV e] w fun x w'=>∃ va vc,x=.returned (.agg #[zi er,zi id,zi kd,zi re,zi rv,.slice va pn vc,zi rn,zi ro])∧EKt be w0 ks σ1 w':=by
 subst hpn;obtain⟨A,eb,l,g,t⟩:=h.ex;refine (hE A w eb l (kept_obj t hp)).mono ?_;rintro x w' ⟨A',vp,rfl,hf,h3,h4,h5⟩;have hf2:=hf;obtain⟨a,n,c,rfl,hn,_⟩:=hf2;rw[pairCs_len] at hn;obtain rfl:n=ps.length:=by omega
 exact⟨a,c,rfl,A',h5.trans eb,h3,g.trans h4,Kepts.grow h4 t⟩
theorem clipPd (a:Option Addr) (n cap:Nat) (h:n≤cap) (hm:cap≤9223372036854775807) (w:World):
 Calls Tryz.prog 65 #[.slice a n cap] w fun e w'=>e=.returned (.slice a n n)∧w=w':=by
 have h1:(n:Int)≤(cap:Int):=by omega
 go_enter Tryz.func65,Tryz.ntmps65;go_wp2;go_ret;exact⟨rfl,rfl⟩
theorem bytes5 {w:World} {g:Nat} (h:w.heap[g]? =some (.cells #[.int .u8 0,.int .u8 0,.int .u8 1,.int .u8 0,.int .u8 0] 5)):Plan.Bytes w (some ⟨g,0,none⟩) 5 5 [0,0,1,0,0]:=by
 refine⟨rfl,by omega,by omega,.inr ⟨g,0,rfl,lt_of h,fun i hi=>?_⟩⟩
 rcases i with _|_|_|_|_|i
 · exact⟨obj_cell h 0 rfl,by decide,by decide⟩
 · exact⟨obj_cell h 1 rfl,by decide,by decide⟩
 · exact⟨obj_cell h 2 rfl,by decide,by decide⟩
 · exact⟨obj_cell h 3 rfl,by decide,by decide⟩
 · exact⟨obj_cell h 4 rfl,by decide,by decide⟩
 · omega
theorem dec5:Plan.dec 2000 [0,0,1,0,0]=[⟨1,0,1,0,0,0,0⟩]:=by
 show (if ([0,0,1,0,0]:List Int).length=0 then [] else Plan.hdE [0,0,1,0,0]::Plan.dec 1999 [])=_;rw[if_neg (by decide)];rfl
theorem sbytes26 {be pl:Nat} {w0 w:World} {σ1:St} (hE:Ent be pl (new 8 50) σ1 ⟨1,0,1,0,0,0,0⟩ 0 1 0 0 0 0 0 []) (h:EKt be w0 [.obj pl (playerO be)] (new 8 50) w) {g:Nat} (hg:w.heap[g]? =some (.cells #[.int .u8 0,.int .u8 0,.int .u8 1,.int .u8 0,.int .u8 0] 5)):
 Calls Tryz.prog 25 #[.pointer (some ⟨pl,0,none⟩),.slice (some ⟨g,0,none⟩) 5 5] w fun e w'=>(∃ v,e=.returned v)∧EKt be w0 [.obj pl (playerO be)] σ1 w':=by
 obtain⟨ii,hii,hz0,hz1,hz2⟩:=info_parts infoPd;have HD:=zH (Plan.decode_any (some ⟨g,0,none⟩) 5 5 [0,0,1,0,0] w (bytes5 hg));have HE:=zH hE;have T0:=zH h;clear hE h hg;go_enter Tryz.func25,Tryz.ntmps25;go_wp2_with fail;refine HD.out.mono ?_;rintro e w1 ⟨v,rfl,hrow,hb⟩;rw[dec5] at hrow;obtain⟨a,cap,rfl,hr⟩:=row_entW hrow;obtain⟨g2,off,rfl,hc⟩:=hr 0 _ rfl;have c0:=hc 0 (zi 1) (by omega) rfl;have c1:=hc 1 (zi 0) (by omega) rfl;have c2:=hc 2 (zi 1) (by omega) rfl;have c3:=hc 3 (zi 0) (by omega) rfl;have c4:=hc 4 (zi 0) (by omega) rfl;have c5:=hc 5 (zi 0) (by omega) rfl;have c6:=hc 6 (zi 0) (by omega) rfl;simp only[Nat.zero_mul,Nat.zero_add,Nat.add_zero] at c0 c1 c2 c3 c4 c5 c6;have T1:=zH (T0.out.below hb);clear hb T0 hr hc hrow HD;go_wp2_with fail
 go_loopw [5,11] (fun v i wr=>(i=zi 0∧v=.slice none 0 0∧wr=w1)∨(i=zi 1∧∃ a c,v=.slice a 1 c∧1≤c∧c≤9223372036854775807∧EKt be w0 [.obj pl (playerO be)] σ1 wr)) (fun _ i _=>1 - (intOf i).toNat)
 case atStart=>exact .inl ⟨rfl,rfl,rfl⟩
 case round=>
  rcases hrel with ⟨rfl,rfl,rfl⟩|⟨rfl,a,c,rfl,hc1,hc2,q⟩
  · have T2:Hid (EKt be w0 [.obj wr.heap.size (.cells #[zi 1,zi 0,zi 1,zi 0,zi 0,zi 0,zi 0] 71),.obj pl (playerO be)] (new 8 50) (wr.alloc (.cells #[zi 1,zi 0,zi 1,zi 0,zi 0,zi 0,zi 0] 71))):=T1.out.alloc _
    clear T1;go_wp2_with fail;refine (EKt.entry (pn:=0) HE.out rfl T2.out (by simp)).mono ?_;rintro x w2 ⟨va,vc,rfl,q⟩;have T3:=zH q;clear q T2 c0 c1 c2 c3 c4 c5 c6;go_wp2_with (at_builtin;refine Ow.wpList_append_to _ rfl (.tmp 15) (.tmp 19) 77 rfl 0 83 ii _ 8 80 Tryz.underlying77 hii hz0 hz1 hz2 rfl (by decide) (.slice none 0 0) 0 [] rfl (World.ownsRow_nil _ _ _ _) ⟨w2.heap.size,0,none⟩ 1 1 (by omega) [zi 0,zi 1,zi 0,zi 0,zi 0,.slice va 0 vc,zi 0,zi 0] rfl rfl ?c1 ?c2 (by unfold maxLen;omega) (by omega) (Nat.zero_le _) ?_)
    case c1=>exact Ow.new_row w2 [zi 0,zi 1,zi 0,zi 0,zi 0,.slice va 0 vc,zi 0,zi 0] _ w2.heap.size rfl
    case c2=>intro u hu;simp at hu;rcases hu with rfl|rfl|rfl|rfl|rfl<;>rfl
    intro v' w3 hown hg _;have hb:Below w2.heap.size w2 w3:=Ow.grown_below (World.ownsRow_nil (w2.alloc _) w2.heap.size 83 8) ((Below.refl _ w2).alloc (Nat.le_refl _) _) (by simp) hg;obtain⟨a,c,rfl,hc1,hc2,_⟩:=Ow.own_form hown;have T4:=zH (T3.out.tail.below hb);clear hown hg hb T3;go_wp2_with fail
    go_roundw
    case rel=>exact .inr ⟨rfl,a,c,rfl,by omega,hc2,T4.out⟩
    case measure=>simp[intOf]
  · have HC:=zH (fun w=>clipPd a 1 c hc1 hc2 w)
    have T3:=zH q;clear q c0 c1 c2 c3 c4 c5 c6 T1;go_wp2_with (go_at_call 65;refine (HC.out _).mono ?_;rintro x w2 ⟨rfl,rfl⟩);go_ret;exact⟨⟨_,rfl⟩,T3.out⟩
theorem sfin26 {be pl:Nat} {w0 w:World} {σ1 σ2:St} {n:Nat} (hr:runEnd (List.range 8) (mostOf σ1.live.length) 1000 σ1 0=some (σ2,n,true)) (h:EKt be w0 [.obj pl (playerO be)] σ1 w):
 Calls Tryz.prog 28 #[.pointer (some ⟨pl,0,none⟩),.slice none 0 0] w fun e w'=>e=.returned (.bool true)∧EKt be w0 [.obj pl (playerO be)] σ2 w':=by
 have x0:=obj_cell (h.obj List.mem_cons_self) 0 rfl;have HEN:=zH (end_kt h hr);clear h hr;go_enter Tryz.func28,Tryz.ntmps28;go_wp2_with (go_at_call 67;refine HEN.out.mono ?_;rintro e w1 ⟨rfl,q⟩;have T1:=zH q;clear q);go_ret;exact⟨rfl,T1.out⟩
theorem ent26 {be pl:Nat} {σ1:St} (h1:beginOk (new 8 50) 0 1=some (σ1,1)):Ent be pl (new 8 50) σ1 ⟨1,0,1,0,0,0,0⟩ 0 1 0 0 0 0 0 []:=fun A w hb l f=>
 entry_begin 0 1 0 0 0 0 ⟨by decide,by decide,.inl ⟨rfl,by decide,by decide,rfl,rfl,rfl,rfl⟩⟩ hb l f fun A' w' l' e'=>by
  have h:=begin_to (s:=0) (by decide) h1 A' w' l';rw[e'] at h;exact h.mono fun e w'' ⟨A2,h2,h3,h4,h5⟩=>⟨h2,A2,h3,h4,h5⟩
theorem play26 {g:Nat} {w:World} (hg:w.heap[g]? =some (.cells #[.int .u8 0,.int .u8 0,.int .u8 1,.int .u8 0,.int .u8 0] 5)):
 Calls Tryz.prog 29 #[.agg #[zi 8,zu 50],.slice (some ⟨g,0,none⟩) 5 5] w fun e w'=>∃ l v cs,l.map (·.kind)=[1,3,5]∧e=.returned (.tuple #[v,zi 0])∧Ow.Row w' 0 12 v cs∧EvR w' l cs∧Below w.heap.size w w':=by
 obtain⟨σ1,σ2,n,h1,h2,h3,h4,h5⟩:=aw26_run;obtain⟨wa,hwa⟩:∃ wa,wa=w.alloc (.cells #[zi 8,zu 50] 66):=⟨_,rfl⟩
 have HB0:Hid (Below w.heap.size w wa):=by subst hwa;exact (Below.refl _ w).alloc (Nat.le_refl _) _
 have HG:Hid (∀ w',Below wa.heap.size wa w'→w'.heap[g]? =some (.cells #[.int .u8 0,.int .u8 0,.int .u8 1,.int .u8 0,.int .u8 0] 5)):=fun w' hb=>by
  have l1:=lt_of hg;have h:=HB0.out;rw[hb.block g (Nat.lt_of_lt_of_le l1 h.size),h.block g l1];exact hg
 have HS:Hid (Calls Tryz.prog 21 #[.agg #[zi 8,zu 50]] wa fun e w'=>∃ be pl,e=.returned (.tuple #[.pointer (some ⟨pl,0,none⟩),zi 0])∧EKt be wa [.obj pl (playerO be)] (new 8 50) w'):=snew_any 8 50 (by omega) (by omega) (by omega) (by omega) wa;have HBY:Hid (∀ be pl w1,EKt be wa [.obj pl (playerO be)] (new 8 50) w1→Calls Tryz.prog 25 #[.pointer (some ⟨pl,0,none⟩),.slice (some ⟨g,0,none⟩) 5 5] w1 fun e w'=>(∃ v,e=.returned v)∧EKt be wa [.obj pl (playerO be)] σ1 w'):=fun be pl w1 q=>sbytes26 (ent26 h1) q (HG.out w1 q.toBelow)
 have HFI:Hid (∀ be pl w1,EKt be wa [.obj pl (playerO be)] σ1 w1→Calls Tryz.prog 28 #[.pointer (some ⟨pl,0,none⟩),.slice none 0 0] w1 fun e w'=>e=.returned (.bool true)∧EKt be wa [.obj pl (playerO be)] σ2 w'):=fun be pl w1 q=>sfin26 h2 q
 have HTA:Hid (∀ be pl w1,EKt be wa [.obj pl (playerO be)] σ2 w1→Calls Tryz.prog 15 #[.pointer (some ⟨be,0,none⟩)] w1 fun e w'=>∃ v cs,e=.returned v∧Ow.Row w' 0 12 v cs∧EvR w' σ2.tale cs∧Below w1.heap.size w1 w'):=fun be pl w1 q=>by
  obtain⟨A,rfl,l,_,_⟩:=q.ex;refine (tale_any l.rep h3 (fun e he=>Nat.le_trans (h4 e he) (by decide))).mono ?_;rintro e w' ⟨v,cs,rfl,ho,hv,hb⟩;exact⟨v,cs,rfl,row_base (own_row ho),hv.evR,hb⟩
 have HK:=zH h5;subst hwa;clear h1 h2 h3 h4 h5 hg;go_enter Tryz.func29,Tryz.ntmps29
 go_wp2_with (first
   |(go_at_call 21;refine HS.out.mono ?_;rintro e w1 ⟨be,pl,rfl,q⟩;have T0:=zH q;clear q HS)
   |(go_at_call 25;refine (HBY.out be pl _ T0.out).mono ?_;rintro e w2 ⟨⟨v,rfl⟩,q⟩;have T1:=zH q;clear q T0)
   |(go_at_call 28;refine (HFI.out be pl _ T1.out).mono ?_;rintro e w3 ⟨rfl,q⟩;have x0:=obj_cell (q.obj List.mem_cons_self) 0 rfl;have T2:=zH q;clear q T1)
   |(go_at_call 15;refine (HTA.out be pl _ T2.out).mono ?_;rintro e w4 ⟨vt,cs,rfl,r,ev,hb⟩;have T3:=zH (zA r (zA ev (T2.out.below hb).toBelow));clear r ev hb T2))
 exact bodyPost_ret (v:=.tuple #[vt,zi 0]) (by simp[results,Tryz.results29,go_sem]) rfl ⟨_,vt,cs,HK.out,rfl,T3.out.1,T3.out.2.1,box_below T3.out.2.2⟩
theorem kinds3 {w:World} {v:Value} {cs:List Value} {l:List Ev} (hl:l.map (·.kind)=[1,3,5]) (hr:Ow.Row w 0 12 v cs) (he:EvR w l cs):∃ g off c,v=.slice (some ⟨g,off,none⟩) 3 c∧w.cell? ⟨g,off,none⟩=some (zi 1)∧w.cell? ⟨g,off+12,none⟩=some (zi 3)∧w.cell? ⟨g,off+24,none⟩=some (zi 5):=by
 rcases l with _|⟨e0,_|⟨e1,_|⟨e2,_|⟨e3,l⟩⟩⟩⟩
 · cases hl
 · simp at hl
 · simp at hl
 · simp only[List.map_cons,List.map_nil,List.cons.injEq,and_true] at hl
   obtain⟨k0,k1,k2⟩:=hl;obtain⟨a0,c0,ys,rfl,-,a1,c1,zs,rfl,-,a2,c2,us,rfl,-,hu⟩:=he;rw[show us=[] from hu] at hr;obtain⟨a,n,cap,rfl,hn,hc,hm,h5⟩:=hr;have hn3:n=3:=by
    simp only[List.length_append,List.length_nil] at hn;have h12:∀ (e:Ev) (v:Value),(evCs e v).length=12:=fun _ _=>rfl
    rw[h12,h12,h12] at hn;omega
   subst hn3;obtain⟨g,off,rfl,_,hg,hcell⟩:=h5.resolve_left (by omega);have q0:=hcell 0 (by omega);have q1:=hcell 12 (by omega);have q2:=hcell 24 (by omega);refine⟨g,off,cap,rfl,q0.trans ?_,q1.trans ?_,q2.trans ?_⟩
   · show some (Value.int .i64 (e0.kind:Int))=_
     rw[k0];rfl
   · show some (Value.int .i64 (e1.kind:Int))=_
     rw[k1];rfl
   · show some (Value.int .i64 (e2.kind:Int))=_
     rw[k2];rfl
 · simp at hl
theorem awake26 (w:World):Calls Tryz.prog 31 #[] w fun e w'=>e=.returned (.bool true)∧Below w.heap.size w w':=by
 have HP:=zH (play26 (g:=w.heap.size) (w:=w.alloc (.cells #[.int .u8 0,.int .u8 0,.int .u8 1,.int .u8 0,.int .u8 0] 5)) (heap_alloc_new w _));go_enter Tryz.func31,Tryz.ntmps31;go_wp2_with (go_at_call 29;refine HP.out.mono ?_;rintro e w1 ⟨l,v,cs,hl,rfl,hr,he,hb⟩;obtain⟨g,off,c,rfl,q0,q1,q2⟩:=kinds3 hl hr he;have HB:=zH (box_below hb);clear hl hr he hb);go_ret;exact⟨rfl,HB.out⟩
end Go.Proofs.YthicolbbmjfkfaaGreat.Em
