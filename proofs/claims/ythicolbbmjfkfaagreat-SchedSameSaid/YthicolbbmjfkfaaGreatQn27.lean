import Derived.Test.YthicolbbmjfkfaaGreatQn25
import Derived.Test.YthicolbbmjfkfaaGreatQn18
import Derived.Test.YthicolbbmjfkfaaGreatQn26
set_option linter.unusedVariables false
set_option linter.unusedSimpArgs false
set_option maxRecDepth 100000
set_option maxHeartbeats 1600000
namespace Go.Proofs.YthicolbbmjfkfaaGreat.bR
open Go.ChangeShapes Go.WideShapes Go.ChangeAt Go.RowKit
def U6 (e:En):Prop:=∀ z∈[e.k,e.s,e.lv,e.ok,e.oy,e.oh,e.ov],-9223372036854775808<=z∧z<9223372036854775808
def G7 (w:World) (z:Ending) (E:World):Prop:=∃ v,z=.returned (.tuple #[v,.bool false])∧Below w.heap.size w E
theorem ET.bad {w:World} {z:Ending} {E:World} (h:ET w z E):G7 w z E:=⟨_,h.1,h.2⟩
theorem sF.bad {w:World} {b:Bool} {b0 b1 b2 b3 b4:Int} {z:Ending} {E:World} (h:sF w b b0 b1 b2 b3 b4 z E) (hb:b=false):G7 w z E:=by
 obtain⟨g,h1,_,_,h4,_⟩:=h;subst hb;exact⟨_,h1,h4⟩
theorem Co {l:List Int} (h:l.all vM=true):∀ z∈l,0<=z∧z<=255:=by
 intro z hz;exact of_decide_eq_true (List.all_eq_true.1 h z hz)
theorem Qw (e:En) (h:V e) (w:World):Calls Tryz.prog 62 #[lN e] w (sF w true (c0 e) e.s (c2 e) e.oy (c4 e)):=by
 have ha:=h.again;have hb:=h.bytes;obtain⟨k,s,lv,ok,oy,oh,ov⟩:=e;unfold V at h;unfold c0 c2 c4 at ha hb ⊢;simp only at h ha hb ⊢
 by_cases Z:k=2
 . subst Z
   rw[aV rfl,aV rfl] at ha hb ⊢
   by_cases ho:ok=5
   . subst ho
     rw[aV rfl] at ha hb ⊢;have:=uo s lv oy oh ov (by omega) (by omega) (by omega) (by omega) (by omega) (by omega) (by omega) (by omega) w;have hq:J7 (qM 1 s 40 oy oh) ⟨2,s,lv,5,oy,oh,ov⟩=true:=(um _ _).2 ha;rw[hq] at this;exact this
   . rw[aR ho] at ha hb ⊢
     have:=vU s lv ok oy oh ov (beq_eq_false_iff_ne.2 ho) (by omega) (by omega) (by omega) (by omega) (by omega) (by omega) (by omega) (by omega) (by omega) (by omega) w;have hq:J7 (qM 1 s (ok*8) oy ov) ⟨2,s,lv,ok,oy,oh,ov⟩=true:=(um _ _).2 ha;rw[hq] at this;exact this
 . rw[aR Z,aR Z] at ha hb ⊢
   have:=rM k s lv ok oy oh ov (beq_eq_false_iff_ne.2 Z) (by simp;omega) (by omega) (by omega) (by omega) (by omega) (by omega) (by omega) (by omega) (by omega) (by omega) (by omega) w
   rwa [(um _ _).2 ha] at this
theorem Ka {e:En} (h:¬ V e) (h5:e.k≠5) (hs:0<=e.s) (h2:0<=c2 e∧c2 e<=255) (h3:0<=e.oy∧e.oy<=255) (h4:0<=c4 e∧c4 e<=255):J7 (qM (c0 e) e.s (c2 e) e.oy (c4 e)) e=false:=by
 cases hq:J7 (qM (c0 e) e.s (c2 e) e.oy (c4 e)) e
 . rfl
 . exact absurd (V.OI h5 hs h2 h3 h4 ((um _ _).1 hq)) h
theorem Sj (e:En) (h:¬ V e) (hi:U6 e) (w:World):Calls Tryz.prog 62 #[lN e] w (G7 w):=by
 have hn:=Ka h;obtain⟨k,s,lv,ok,oy,oh,ov⟩:=e;have ik:-9223372036854775808<=k∧k<9223372036854775808:=hi k (by simp);have io:-9223372036854775808<=ok∧ok<9223372036854775808:=hi ok (by simp);clear h hi;unfold c0 c2 c4 at hn;simp only at hn
 by_cases Z:k=2
 . subst Z
   rw[aV rfl,aV rfl] at hn
   by_cases ho:ok=5
   . subst ho
     rw[aV rfl] at hn
     cases hz:[1,s,lv,5,40,oy,oh].all vM
     . exact (EU s lv oy oh ov hz w).mono fun _ _ h=>h.bad
     . have q:=Co hz
       have q1:=q s (by simp);have q2:=q lv (by simp);have q3:=q oy (by simp);have q4:=q oh (by simp);exact (uo s lv oy oh ov q1.1 q1.2 q2.1 q2.2 q3.1 q3.2 q4.1 q4.2 w).mono fun _ _ h=>h.bad (hn (by omega) q1.1 (by omega) q3 q4)
   . rw[aR ho] at hn
     cases hz:[1,s,lv,ok,wrap64 (ok*8),oy,ov].all vM
     . exact (G6 s lv ok oy oh ov (beq_eq_false_iff_ne.2 ho) hz w).mono fun _ _ h=>h.bad
     . have q:=Co hz
       have q1:=q s (by simp);have q2:=q lv (by simp);have q3:=q oy (by simp);have q4:=q ov (by simp);have q5:=q ok (by simp);have q6:=q (wrap64 (ok*8)) (by simp);have q7:ok*8<=255:=by unfold wrap64 at q6;omega
       exact (vU s lv ok oy oh ov (beq_eq_false_iff_ne.2 ho) q1.1 q1.2 q2.1 q2.2 q5.1 q7 q3.1 q3.2 q4.1 q4.2 w).mono fun _ _ h=>h.bad (hn (by omega) q1.1 (by omega) q3 q4)
 . rw[aR Z,aR Z] at hn
   cases hz:[wrap64 (k - 1),s,lv,ok,lv,oy,0].all vM
   . exact (Cm k s lv ok oy oh ov (beq_eq_false_iff_ne.2 Z) hz w).mono fun _ _ h=>h.bad
   . have q:=Co hz
     have q1:=q s (by simp);have q2:=q lv (by simp);have q3:=q oy (by simp);have q5:=q ok (by simp);have q6:=q (wrap64 (k - 1)) (by simp);have q7:1<=k∧k<=256:=by unfold wrap64 at q6;omega
     by_cases h5:k=5
     . subst h5
       exact (EW s lv ok oy oh ov q1.1 q1.2 q2.1 q2.2 q5.1 q5.2 q3.1 q3.2 w).mono fun _ _ h=>h.bad rfl
     . exact (rM k s lv ok oy oh ov (beq_eq_false_iff_ne.2 Z) (by simp;omega) q7.1 q7.2 q1.1 q1.2 q2.1 q2.2 q5.1 q5.2 q3.1 q3.2 w).mono fun _ _ h=>h.bad (hn h5 q1.1 q2 q3 (by omega))
theorem MZ (e:En) (h:V e) (w:World):Calls Tryz.prog 66 #[lN e] w fun z E=>z=.returned (.bool true)∧Below w.heap.size w E:=by
 have HP:=Lib.hid (fun w=>Qw e h w);clear h;generalize c0 e=b0 at*;generalize c2 e=b2 at*;generalize c4 e=b4 at*;obtain⟨k,s,lv,ok,oy,oh,ov⟩:=e;go_enter Tryz.func66,Tryz.ntmps66;go_wp2_with fail;refine (HP.out _).mono ?_;rintro z Y ⟨g,rfl,hg,hg',hq,x0,x1,x2,x3,x4⟩;have hb:Below w.heap.size w Y:=(bY w _).trans (hq.mono (by simp));clear HP hq;go_wp2_with fail;go_ret;exact⟨rfl,hb⟩
end Go.Proofs.YthicolbbmjfkfaaGreat.bR
namespace Go.Proofs.YthicolbbmjfkfaaGreat.Em
open Go.ChangeShapes Go.WideShapes Go.ChangeAt Go.RowKit En
abbrev bC (H:Nat):Obj:=.cells #[R H 0] 154
theorem rE.base {b:Nat} {w0 Y w:World} {ks:List Kept} {D:St} (h:rE b Y ks D w) (hb:Below w0.heap.size w0 Y):rE b w0 ks D w:=by
 obtain⟨A,e,l,g,t⟩:=h.ex;exact⟨A,e,l,(Grow.below (L:=fun _=>none) hb).trans g,t⟩
theorem IZ (n l:Nat) (h1:1<=n) (h2:n<=256) (h3:1<=l) (h4:l<=1099511627776) (w:World):
 zk 21 #[.agg #[I n,zu l]] w fun e E=>∃ H pl,e=.returned (.tuple #[R pl 0,I 0])∧rE H w [.obj pl (bC H)] (new n l) E∧w.heap.size<=pl:=by
 obtain⟨w0,hw0⟩:∃ w0,w0=w.alloc (.cells #[I n,zu l] 66):=⟨_,rfl⟩
 have HB:Hid (Below w.heap.size w w0):=by rw[hw0];exact (Below.refl _ w).alloc (zr _) _
 have HN:Hid (zk 37 #[.agg #[I n,zu l]] w0 fun e E=>∃ b,e=.returned (.tuple #[R b 0,I 0])∧rE b w [] (new n l) E):=(RA n l h1 h2 h3 h4 w0).mono fun e E ⟨b,h,q⟩=>⟨b,h,q.kt.base HB.out⟩
 subst hw0;clear h1 h2 h3 h4 HB;go_enter Tryz.func21,Tryz.ntmps21;go_wp2_with (go_at_call 37;refine HN.out.mono ?_;rintro e Y ⟨H,rfl,q⟩;have T1:=zH q;clear q);exact bodyPost_ret (v:=.tuple #[R Y.heap.size 0,I 0]) (by simp[results,Tryz.results21,go_sem]) rfl ⟨_,_,rfl,T1.out.alloc _,T1.out.toBelow.size⟩
theorem M0 (n l:Nat) (h1:1<=n) (h2:n<=256) (h3:1<=l) (h4:l<=1099511627776) (w:World):
 zk 21 #[.agg #[I n,zu l]] w fun e E=>∃ H pl,e=.returned (.tuple #[R pl 0,I 0])∧rE H w [.obj pl (bC H)] (new n l) E:=
 (IZ n l h1 h2 h3 h4 w).mono fun e E ⟨H,pl,h,q,_⟩=>⟨H,pl,h,q⟩
theorem vW (pl H:Nat) (w:World) (h:w.cell? (J pl 0)=zs H 0):
 zk 30 #[R pl 0] w fun e E=>e=.returned (R H 0)∧w=E:=by
 go_enter Tryz.func30,Tryz.ntmps30;go_wp2_with fail;go_ret;exact⟨rfl,rfl⟩
def M3 (p:Pk):bR.En:=
 if p.kd=0 then ⟨1,p.s,p.l,0,0,0,0⟩ else if p.kd=1 then ⟨2,p.s,0,p.k,p.F,p.hi,p.v⟩ else if p.kd=6 then ⟨4,0,0,0,0,0,0⟩ else ⟨3,p.s,0,0,0,0,0⟩
theorem M8 {p:Pk} (h:Lt p):bR.U6 (M3 p):=by
 have h1:=h p.s (by simp);have h2:=h p.l (by simp);have h3:=h p.k (by simp);have h4:=h p.F (by simp);have h5:=h p.hi (by simp);have h6:=h p.v (by simp);intro z hz;unfold M3 at hz
 split at hz
 . simp at hz;rcases hz with rfl|rfl|rfl|rfl<;>omega
 . split at hz
   . simp at hz;rcases hz with rfl|rfl|rfl|rfl|rfl|rfl|rfl<;>omega
   . split at hz
     . simp at hz;rcases hz with rfl|rfl<;>omega
     . simp at hz;rcases hz with rfl|rfl|rfl<;>omega
theorem M9 (p:Pk) (w:World):zk 22 #[Ye p] w fun e E=>e=.returned (bR.lN (M3 p))∧Below w.heap.size w E:=by
 obtain⟨kd,s,l,k,F,hi,v⟩:=p;unfold Ye ru bR.lN M3;simp only[List.toArray]
 by_cases h0:kd=0
 . subst h0
   simp only[if_true];go_enter Tryz.func22,Tryz.ntmps22;go_wp2_with fail;exact bodyPost_ret (v:=.agg #[I 1,I s,I l,I 0,I 0,I 0,I 0]) (by simp[results,Tryz.results22,go_sem]) rfl ⟨rfl,by exact bR.bW _ _ _⟩
 by_cases h1:kd=1
 . subst h1
   simp only[if_true,aR h0];go_enter Tryz.func22,Tryz.ntmps22;go_wp2_with fail;exact bodyPost_ret (v:=.agg #[I 2,I s,I 0,I k,I F,I hi,I v]) (by simp[results,Tryz.results22,go_sem]) rfl ⟨rfl,by exact bR.bW _ _ _⟩
 by_cases h6:kd=6
 . subst h6
   simp only[if_true,aR h0,aR h1];go_enter Tryz.func22,Tryz.ntmps22;go_wp2_with fail;exact bodyPost_ret (v:=.agg #[I 4,I 0,I 0,I 0,I 0,I 0,I 0]) (by simp[results,Tryz.results22,go_sem]) rfl ⟨rfl,by exact bR.bW _ _ _⟩
 . have f0:(kd==0)=false:=by simpa using h0
   have f1:(kd==1)=false:=by simpa using h1
   have f6:(kd==6)=false:=by simpa using h6
   simp only[aR h0,aR h1,aR h6];have e0:(kd=0)=False:=by simpa using h0
   have e1:(kd=1)=False:=by simpa using h1
   have e6:(kd=6)=False:=by simpa using h6
   clear h0 h1 h6;go_enter Tryz.func22,Tryz.ntmps22;go_wp2_with fail;exact bodyPost_ret (v:=.agg #[I 3,I s,I 0,I 0,I 0,I 0,I 0]) (by simp[results,Tryz.results22,go_sem]) rfl ⟨rfl,by exact bR.bW _ _ _⟩
theorem Na (er id kd re rv rn ro:Int) (a1 a2:Option Addr) (n c1 c2:Nat) (ps:List (Nat×Nat)) (w:World) (h1:Ow.Row w 0 2 (.slice a1 n c1) (bJ ps)) (h2:Ow.Row w 0 2 (.slice a2 n c2) (bJ ps)):
 zk 26 #[.agg #[I er,I id,I kd,I re,I rv,.slice a1 n c1,I rn,I ro],.agg #[I er,I id,I kd,I re,I rv,.slice a2 n c2,I rn,I ro]] w fun e E=>e=.returned (.bool true)∧Below w.heap.size w E:=by
 have zi:Hid (∀ E,Below w.heap.size w E->zk 12 #[.agg #[I re,I rv,.slice a1 n c1,I rn,I ro],.agg #[I re,I rv,.slice a2 n c2,I rn,I ro]] E fun e w''=>e=.returned (.bool true)∧Below E.heap.size E w''):=fun E hb=>vO re rv rn ro a1 a2 n c1 c2 ps E (h1.below hb) (h2.below hb)
 clear h1 h2;go_enter Tryz.func26,Tryz.ntmps26;go_wp2_with (go_at_call 12;refine (zi.out _ (bR.bW _ _ _)).mono ?_;rintro e w3 ⟨rfl,hb⟩);go_ret;exact⟨rfl,(bR.bW _ _ _).trans (hb.mono (by simp;omega))⟩
end Go.Proofs.YthicolbbmjfkfaaGreat.Em
namespace Go.Proofs.YthicolbbmjfkfaaGreat.bR
open Go.ChangeShapes Go.WideShapes Go.ChangeAt Go.RowKit
def qJ (e:En):List Int:=[c0 e,e.s,c2 e,e.oy,c4 e]
def fO (l:List En):List Int:=l.flatMap qJ
def wM (l:List Int):List Value:=l.map (Value.int .u8)
theorem G8 (a b:List Int):wM (a++b)=wM a++wM b:=List.map_append ..
theorem zw (l:List En):(fO l).length=5*l.length:=by
 induction l with
 |nil=>rfl
 |cons e l ih=>
  show (qJ e++fO l).length=_;rw[jR,ih,List.length_cons];show 5+_=_;omega
theorem EY (l:List En) (e:En):fO (l++[e])=fO l++qJ e:=by
 unfold fO;rw[List.flatMap_append];simp
theorem EZ (l:List Int):∀ u∈wM l,u.oneCell'=true:=by
 intro u hu;unfold wM at hu;rw[List.mem_map] at hu;obtain⟨x,_,rfl⟩:=hu;rfl
theorem G9 (l:List Int):(wM l).length=l.length:=List.length_map ..
theorem PV (l:List Int) (j:Nat) (h:j<l.length):(wM l)[j]? =some (.int .u8 (l.getD j 0)):=by
 unfold wM;simp[zx h,mM]
theorem U7:(Tryz.prog.info? 5).map (fun i=>(i.zero,i.size,i.bytes))=some (some (.int .u8 0),1,1):=by kernel_rfl
theorem Nb {ops:Array Oper} {rest:List Oper} {o:Oper} {a:Act} {Q:Exit->Act->World->Prop} (w:World) (hgd:o.guard=none) (s x:Operand)
 (ho:o.op=.call {callee:=.builtin .append,args:=#[s,x],argTypes:=#[74,74]})
 (base:Nat) (v:Value) (n:Nat) (xs:List Value) (hs:a.eval s=v) (aU:w.ownsRow base 5 1 v n xs)
 (ad:Addr) (m c:Nat) (news:List Value) (hx:a.eval x=.slice (some ad) m c) (hl:news.length=m) (hnews:∀ j u,news[j]? =some u->w.cell? (ad.add j)=some u) (h1:∀ u∈news,u.oneCell'=true)
 (hn:n+m<1000000) (hbase:base<=w.heap.size)
 (h:∀ v' E,E.ownsRow base 5 1 v' (n+m) (xs++news)->w.grownBy E v.ownBlock->wpList Tryz.prog ops Q rest (a.put o.dst v') E):wpList Tryz.prog ops Q (o::rest) a w:=by
 obtain⟨i0,hi,hz0,hz1,hz2⟩:=info_parts U7;exact wpList_append_own w hgd s x _ ho base _ i0 _ 1 1 Tryz.underlying74 hi hz0 hz1 hz2 rfl (by decide) v n xs hs aU ad m c news hx (by omega) hnews h1 (by unfold maxLen;omega) (by omega) hbase (fun v' E h2 h3 _=>h v' E h2 h3)
theorem Kb (a:Option Addr) (n cap:Nat) (h:n<=cap) (hm:cap<=9223372036854775807) (w:World):
 Calls Tryz.prog 63 #[.slice a n cap] w fun e E=>e=.returned (.slice a n n)∧w=E:=by
 have h1:(n:Int)<=(cap:Int):=by omega
 go_enter Tryz.func63,Tryz.ntmps63;go_wp2;go_ret;exact⟨rfl,rfl⟩
theorem Ha {w:World} {g:Nat} {b0 b1 b2 b3 b4:Int} (x0:w.cell? ⟨g,0,none⟩=some (.int .u8 b0)) (x1:w.cell? ⟨g,1,none⟩=some (.int .u8 b1)) (x2:w.cell? ⟨g,2,none⟩=some (.int .u8 b2)) (x3:w.cell? ⟨g,3,none⟩=some (.int .u8 b3)) (x4:w.cell? ⟨g,4,none⟩=some (.int .u8 b4)):
 ∀ j u,(wM [b0,b1,b2,b3,b4])[j]? =some u->w.cell? ((⟨g,0,none⟩:Addr).add j)=some u:=by
 intro j u h;have e:(⟨g,0,none⟩:Addr).add j=⟨g,j,none⟩:=by simp[Addr.add];exact fun h=>h.symm
 rw[e]
 match j,h with
 |0,h=>simp[wM] at h;subst h;exact x0
 |1,h=>simp[wM] at h;subst h;exact x1
 |2,h=>simp[wM] at h;subst h;exact x2
 |3,h=>simp[wM] at h;subst h;exact x3
 |4,h=>simp[wM] at h;subst h;exact x4
 |j+5,h=>simp[wM] at h
def PX (w:World) (es:List En) (z:Ending) (E:World):Prop:=
 Below w.heap.size w E ∧ (((∀ e ∈ es, V e) ∧ ∃ a n, z = .returned (.tuple #[.slice a n n, .int .i64 0]) ∧ Ow.Row E w.heap.size 1 (.slice a n n) (wM (fO es))) ∨
   ((¬ ∀ e∈es,V e)∧z=.returned (.tuple #[.slice none 0 0,.int .i64 1])))
def Sk (w:World) (es:List En) (k:Nat) (v i:Value) (wr:World):Prop:=
 k<=es.length∧i=.int .i64 k∧wr.ownsRow w.heap.size 5 1 v (5*k) (wM (fO (es.take k)))∧Below w.heap.size w wr∧∀ e∈es.take k,V e
set_option maxHeartbeats 2000000 in
theorem Hd (v:Value) (es:List En) (hi:∀ e∈es,U6 e) (hl:es.length<=2000) (w:World) (hr:Ow.Row w 0 7 v (gZ es)):
 Calls Tryz.prog 24 #[v] w (PX w es):=by
 obtain⟨a,n,cap,rfl,hn,hc,hm,ha⟩:=hr;rw[tO] at hn;obtain rfl:n=es.length:=by omega
 obtain⟨n,hlen⟩:∃ n,es.length=n:=⟨_,rfl⟩
 have HN:=Lib.hid hlen;rw[hlen] at hl hc ha ⊢;have hl1:(n:Int)<=2000:=by omega
 have HI:=Lib.hid hi;clear hn hm hlen hi;go_enter Tryz.func24,Tryz.ntmps24;go_wp2
 go_loopw [4,14] (fun v i wr=>∃ k,Sk w es k v i wr) (fun _ i _=>n - (intOf i).toNat)
 case atStart=>exact⟨0,by omega,rfl,World.ownsRow_nil _ _ _ _,Below.refl _ _,by simp⟩
 case round=>
  obtain⟨k,Z,rfl,aU,hbel,hall⟩:=hrel;have hkn:k<=n:=by rw[HN.out] at Z;exact Z
  obtain⟨a2,cap2,rfl,hn2,hm2,hrow⟩:=Ow.bN aU
  by_cases hlt:k<n
  . rcases ha with ha|⟨g,off,rfl,_,hg,hcell⟩
    . omega
    have i1:(0:Int)<=(k:Int):=by omega
    have i2:(k:Int)<(n:Int):=by omega
    have hN:=HN.out;have cA:=DJ (l:=es) (fun j hj=>hcell j (by omega)) k (by omega) gG;have hget:es.getD k gG=es[k]'(by omega):=by simp[mM,zx (show k<es.length by omega)]
    have htake:es.take (k+1)=es.take k++[es.getD k gG]:=by rw[hget,List.take_succ_eq_append_getElem (by omega)]
    have hmem:es.getD k gG∈es:=by rw[hget];exact List.getElem_mem _
    have Xy:=HI.out _ hmem;generalize es.getD k gG=zp at*;have HA:=Lib.hid hall;have HT:=Lib.hid htake;have HM:=Lib.hid hmem;have hb5:(fO (es.take k)).length=5*k:=by rw[zw,List.length_take];omega
    have Xz:k+1<=es.length:=by omega
    have HLE:=Lib.hid Xz
    by_cases hv:V zp
    . have hv2:∀ e∈es.take (k+1),V e:=by
       intro e he;rw[htake] at he
       rcases List.mem_append.1 he with he|he
       . exact hall e he
       . simp at he;subst he;exact hv
      have HV:=Lib.hid hv2;have HP:=Lib.hid (fun w=>Qw zp hv w);have hE:fO (es.take (k+1))=fO (es.take k)++[c0 zp,zp.s,c2 zp,zp.oy,c4 zp]:=by rw[htake,EY];rfl
      have HE:=Lib.hid hE;clear hv2 hE hv Xy hget hN hall htake hmem Xz;generalize c0 zp=b0 at*;generalize c2 zp=b2 at*;generalize c4 zp=b4 at*;obtain⟨ek,es',mD,kT,lQ,mJ,mi⟩:=zp;simp only at HP HE;have kA:∀ f,f<7->wr.cell? ⟨g,off+(k*7+f),none⟩=(cellsE ⟨ek,es',mD,kT,lQ,mJ,mi⟩)[f]? :=fun f hf=>by rw[hbel.cell (p:=⟨g,off+(k*7+f),none⟩) hg];exact cA f hf
      clear cA hcell;have a0:=kA 0 (by omega);have a1:=kA 1 (by omega);have Sl:=kA 2 (by omega);have a3:=kA 3 (by omega);have a4:=kA 4 (by omega);have a5:=kA 5 (by omega);have a6:=kA 6 (by omega);clear kA;simp only[Nat.add_zero,<-Nat.add_assoc] at a0 a1 Sl a3 a4 a5 a6;simp only[cellsE,List.getElem?_cons_zero,List.getElem?_cons_succ] at a0 a1 Sl a3 a4 a5 a6;go_wp2_with fail;refine (HP.out _).mono ?_;rintro z Y ⟨g1,rfl,hg1,hg1',hq,x0,x1,x2,x3,x4⟩;have hq2:Below wr.heap.size wr Y:=(bY wr _).trans (hq.mono (by simp));have ku:=Ow.ni hbel hq2;have hown1:=Ow.own_below aU hq2;have hsz:=ku.size;clear aU hbel hq hq2 a0 a1 Sl a3 a4 a5 a6;go_wp2_with (at_builtin;refine Nb _ rfl (.tmp 25) (.tmp 26) rfl w.heap.size (.slice a2 (5*k) cap2) (5*k) _ rfl hown1 ⟨g1,0,none⟩ 5 5 (wM [b0,es',b2,lQ,b4]) rfl rfl (Ha x0 x1 x2 x3 x4) (EZ _) (by omega) (by omega) ?_);intro v' w2 hown2 hg2;have oL:Below w.heap.size w w2:=Ow.nN hown1 ku hsz hg2;rw[<-G8,<-HE.out,show 5*k+5=5*(k+1) from by omega] at hown2;clear hg2 hown1 ku x0 x1 x2 x3 x4;go_wp2_with fail;exact⟨⟨k+1,HLE.out,by go_num,hown2,oL,HV.out⟩,by simp[intOf];omega⟩
    . have HP:=Lib.hid (fun w=>Sj zp hv Xy w)
      have hno:¬ ∀ e∈es,V e:=fun h=>hv (h zp hmem)
      have HO:=Lib.hid hno;clear hno hv Xy hget hN hall htake hmem Xz;obtain⟨ek,es',mD,kT,lQ,mJ,mi⟩:=zp;have kA:∀ f,f<7->wr.cell? ⟨g,off+(k*7+f),none⟩=(cellsE ⟨ek,es',mD,kT,lQ,mJ,mi⟩)[f]? :=fun f hf=>by rw[hbel.cell (p:=⟨g,off+(k*7+f),none⟩) hg];exact cA f hf
      clear cA hcell;have a0:=kA 0 (by omega);have a1:=kA 1 (by omega);have Sl:=kA 2 (by omega);have a3:=kA 3 (by omega);have a4:=kA 4 (by omega);have a5:=kA 5 (by omega);have a6:=kA 6 (by omega);clear kA;simp only[Nat.add_zero,<-Nat.add_assoc] at a0 a1 Sl a3 a4 a5 a6;simp only[cellsE,List.getElem?_cons_zero,List.getElem?_cons_succ] at a0 a1 Sl a3 a4 a5 a6;go_wp2_with fail;refine (HP.out _).mono ?_;rintro z Y ⟨v1,rfl,hq⟩;have hq2:Below wr.heap.size wr Y:=(bY wr _).trans (hq.mono (by simp));have ku:=Ow.ni hbel hq2;clear aU hbel hq hq2 a0 a1 Sl a3 a4 a5 a6;go_wp2_with fail
      go_ret2
      exact⟨ku,.inr ⟨HO.out,rfl⟩⟩
  . obtain rfl:k=n:=by omega
    have hN:=HN.out;rw[List.take_of_length_le (by omega)] at hall hrow;have HA:=Lib.hid hall;have HR:=Lib.hid hrow;clear hall hrow aU hN;go_wp2_with (go_at_call 63;refine (Kb _ _ _ hn2 hm2 _).mono ?_;rintro e E ⟨rfl,rfl⟩)
    go_ret2
    exact⟨hbel,.inl ⟨HA.out,_,_,rfl,HR.out⟩⟩
theorem bytes_of_row {w:World} {base:Nat} {a:Option Addr} {n cap:Nat} {xs:List Int} (h:Ow.Row w base 1 (.slice a n cap) (wM xs)) (hx:∀ x∈xs,0<=x∧x<256):Bytes w a n cap xs:=by
 obtain⟨a',n',cap',he,hn,hc,hm,ha⟩:=h;simp only[Value.slice.injEq] at he;obtain⟨rfl,rfl,rfl⟩:=he;rw[G9,Nat.mul_one] at hn;unfold maxLen at hm;refine⟨hn,hc,hm,?_⟩
 rcases ha with ha|⟨g,off,rfl,_,hg,hcell⟩
 . exact .inl ha
 . refine .inr ⟨g,off,rfl,hg,fun i hi=>⟨by rw[hcell i (by omega),PV xs i (by omega)],?_⟩⟩
   rw[mM,zx (by omega)];have:=hx _ (List.getElem_mem (l:=xs) (n:=i) (by omega));exact this
theorem uu (l:List En) (h:∀ e∈l,V e):∀ x∈fO l,0<=x∧x<256:=by
 intro x hx;unfold fO at hx;rw[List.mem_flatMap] at hx;obtain⟨e,he,hx⟩:=hx;have hb:=(h e he).bytes;simp only[qJ,List.mem_cons,List.not_mem_nil,or_false] at hx;omega
theorem He (l:List En):∀ n,(∀ e∈l,V e)->l.length<=n->dec n (fO l)=l:=by
 induction l with
 |nil=>intro n _ _;cases n<;>rfl
 |cons e l ih=>
  intro n hv hn
  cases n with
  |zero=>simp at hn
  |succ n=>
   have VJ:=hv e (nK ..);have h1:=ih n (fun x hx=>hv x (qg _ hx)) (by simp at hn;exact hn);unfold dec;show (if (qJ e++fO l).length=0 then [] else Nr (qJ e++fO l)::dec n ((qJ e++fO l).drop 5))=_;rw[aR (by rw[jR];show ¬ 5+_=0;omega)];have hd:(qJ e++fO l).drop 5=fO l:=rfl;rw[hd,h1]
   congr 1
   unfold Nr;rw[aR (by rw[jR];show ¬ 5+_<5;omega)];exact VJ.again
end Go.Proofs.YthicolbbmjfkfaaGreat.bR
