import Derived.Test.YthicolbbmjfkfaaGreatQp21
namespace Go.Proofs.YthicolbbmjfkfaaGreat.Plan
open Go.ChangeShapes Go.WideShapes Go.ChangeAt Go.RowKit
set_option linter.unusedVariables false
set_option linter.unusedSimpArgs false
set_option maxRecDepth 100000
set_option maxHeartbeats 1600000
def Five (w:World) (e:Ending) (w':World) (b0 b1 b2 b3 b4:Int):Prop:=
 ∃ g,e=.returned (.slice (some ⟨g,0,none⟩) 5 5)∧w.heap.size≤g∧g<w'.heap.size∧Below w.heap.size w w'∧
  w'.cell? ⟨g,0,none⟩=some (.int .u8 b0)∧w'.cell? ⟨g,1,none⟩=some (.int .u8 b1)∧w'.cell? ⟨g,2,none⟩=some (.int .u8 b2)∧w'.cell? ⟨g,3,none⟩=some (.int .u8 b3)∧w'.cell? ⟨g,4,none⟩=some (.int .u8 b4)
theorem Five.new (w:World) (o:Obj) (b0 b1 b2 b3 b4:Int):Five w (.returned (.slice (some ⟨w.heap.size+1,0,none⟩) 5 5)) ((w.alloc o).alloc (.cells #[.int .u8 b0,.int .u8 b1,.int .u8 b2,.int .u8 b3,.int .u8 b4] 5)) b0 b1 b2 b3 b4:=
 ⟨w.heap.size+1,rfl,by omega,by simp,below_allocs2 w _ _,by go_simp,by go_simp,by go_simp,by go_simp,by go_simp⟩
set_option maxHeartbeats 1000000 in
theorem rbytes_one (ek es elv eok eoy eoh eov:Int) (h:ek=1) (w:World):
 Calls Tryz.prog 61 #[enV ⟨ek,es,elv,eok,eoy,eoh,eov⟩] w fun e w'=>Five w e w' ((ek - 1) % 256) (es % 256) (elv % 256) 0 0:=by
 subst h;go_enter Tryz.func61,Tryz.ntmps61;go_wp2;go_ret;exact Five.new w _ 0 (es % 256) (elv % 256) 0 0
set_option maxHeartbeats 1000000 in
theorem rbytes_other (ek es elv eok eoy eoh eov:Int) (h1:ek≠1) (h2:ek≠2) (w:World):
 Calls Tryz.prog 61 #[enV ⟨ek,es,elv,eok,eoy,eoh,eov⟩] w fun e w'=>Five w e w' ((ek - 1) % 256) (es % 256) 0 0 0:=by
 have d1:(ek==1)=false:=beq_eq_false_iff_ne.2 h1;have d2:(ek==2)=false:=beq_eq_false_iff_ne.2 h2;clear h1 h2;have hw:wrap64 (ek - 1) % 256=(ek - 1) % 256:=by unfold wrap64;omega
 go_enter Tryz.func61,Tryz.ntmps61;go_wp2;go_ret;exact Five.new w _ ((ek - 1) % 256) (es % 256) 0 0 0
set_option maxHeartbeats 2000000 in
theorem rbytes_two (ek es elv eok eoy eoh eov:Int) (h:ek=2) (ho:(eok==5)=false) (w:World):
 Calls Tryz.prog 61 #[enV ⟨ek,es,elv,eok,eoy,eoh,eov⟩] w fun e w'=>Five w e w' ((ek - 1) % 256) (es % 256) (eok*8 % 256) (eoy % 256) (eov % 256):=by
 subst h;have hw:wrap64 (eok*8) % 256=eok*8 % 256:=by unfold wrap64;omega
 go_enter Tryz.func61,Tryz.ntmps61;go_wp2
 go_region_held3 (fun w'=>w'.cell? ⟨w.heap.size,3,none⟩=some (.int .i64 eok)∧w'.cell? ⟨w.heap.size,4,none⟩=some (.int .i64 eoy)∧w'.cell? ⟨w.heap.size,6,none⟩=some (.int .i64 eov)) (go_keep) (fail)
 go_wp2;go_ret;refine⟨w.heap.size+1,rfl,by omega,by simp,by (repeat (first|(with_reducible exact Below.refl _ _)|((with_reducible refine Below.setCell ?_ ?_ _);rotate_left;focus (first|(simp;done)|(simp;omega)))|(with_reducible refine below_drewN ?_ _)|(with_reducible refine Below.drew ?_)|((with_reducible refine Below.alloc ?_ ?_ _);rotate_left;focus (first|(simp;done)|(simp;omega))))),by go_simp,by go_simp,by go_simp,by go_simp,by go_simp⟩
set_option maxHeartbeats 2000000 in
theorem rbytes_scan (ek es elv eok eoy eoh eov:Int) (h:ek=2) (ho:eok=5) (w:World):
 Calls Tryz.prog 61 #[enV ⟨ek,es,elv,eok,eoy,eoh,eov⟩] w fun e w'=>Five w e w' ((ek - 1) % 256) (es % 256) (eok*8 % 256) (eoy % 256) (eoh % 256):=by
 subst h ho;go_enter Tryz.func61,Tryz.ntmps61;go_wp2
 go_region_held3 (fun w'=>w'.cell? ⟨w.heap.size,3,none⟩=some (.int .i64 5)∧w'.cell? ⟨w.heap.size,4,none⟩=some (.int .i64 eoy)∧w'.cell? ⟨w.heap.size,6,none⟩=some (.int .i64 eov)) (go_keep) (fail)
 go_wp2;go_ret;refine⟨w.heap.size+1,rfl,by omega,by simp,by (repeat (first|(with_reducible exact Below.refl _ _)|((with_reducible refine Below.setCell ?_ ?_ _);rotate_left;focus (first|(simp;done)|(simp;omega)))|(with_reducible refine below_drewN ?_ _)|(with_reducible refine Below.drew ?_)|((with_reducible refine Below.alloc ?_ ?_ _);rotate_left;focus (first|(simp;done)|(simp;omega))))),by go_simp,by go_simp,by go_simp,by go_simp,by go_simp⟩
theorem rbytes_any (e:En) (w:World):
 Calls Tryz.prog 61 #[enV e] w fun x w'=>Five w x w' ((e.k - 1) % 256) (e.s % 256) (r2 e) (r3 e) (r4 e):=by
 obtain⟨k,s,lv,ok,oy,oh,ov⟩:=e;unfold r2 r3 r4
 by_cases h1:k=1
 · have:=rbytes_one k s lv ok oy oh ov h1 w
   subst h1;exact this
 · by_cases h2:k=2
   · by_cases h5:ok=5
     · have:=rbytes_scan k s lv ok oy oh ov h2 h5 w
       subst h2 h5;exact this
     · have:=rbytes_two k s lv ok oy oh ov h2 (beq_eq_false_iff_ne.2 h5) w
       simp only[if_neg h1,if_pos h2,if_neg h5];exact this
   · have:=rbytes_other k s lv ok oy oh ov h1 h2 w
     simp only[if_neg h1,if_neg h2];exact this
def eqB (a b:En):Bool:=a.k==b.k&&(a.s==b.s&&(a.lv==b.lv&&(a.ok==b.ok&&(a.oy==b.oy&&(a.oh==b.oh&&a.ov==b.ov)))))
theorem eqB_iff (a b:En):eqB a b=true↔a=b:=by
 unfold eqB;simp only[Bool.and_eq_true,beq_iff_eq];constructor
 · rintro ⟨h1,h2,h3,h4,h5,h6,h7⟩;exact en_eq h1 h2 h3 h4 h5 h6 h7
 · rintro rfl;simp
theorem ret_b {a b:Bool} (h:a=b):Ending.returned (.bool a)=.returned (.bool b):=by rw[h]
theorem r_bd (e:En):(0≤r2 e∧r2 e<256)∧(0≤r3 e∧r3 e<256)∧(0≤r4 e∧r4 e<256):=by
 refine⟨?_,?_,?_⟩
 · unfold r2;split<;>(try split)<;>omega
 · unfold r3;split<;>omega
 · unfold r4;split<;>(try split)<;>omega
set_option maxHeartbeats 1000000 in
theorem rok_core (e x:En) (w:World) (hx:enE ((e.k - 1) % 256) (e.s % 256) (r2 e) (r3 e) (r4 e)=x):
 Calls Tryz.prog 23 #[enV e] w fun z w'=>z=.returned (.bool (eqB x e&&e.k !=5))∧Below w.heap.size w w':=by
 have hr:=r_bd e;have HB:=Lib.hid (fun w=>rbytes_any e w);have HO:=Lib.hid (fun g w h0 h1 h2 h3 h4=>rone_any g 0 5 5 (by omega) (by omega) ((e.k - 1) % 256) (e.s % 256) (r2 e) (r3 e) (r4 e) (by omega) (by omega) (by omega) (by omega) hr.1.1 hr.1.2 hr.2.1.1 hr.2.1.2 hr.2.2.1 hr.2.2.2 w h0 h1 h2 h3 h4);rw[hx] at HO;clear hx hr;obtain⟨k,s,lv,ok,oy,oh,ov⟩:=e;obtain⟨xk,xs,xlv,xok,xoy,xoh,xov⟩:=x;go_enter Tryz.func23,Tryz.ntmps23;go_wp2_with fail;have f1:=At7.new w ⟨k,s,lv,ok,oy,oh,ov⟩ 71 _ rfl;simp only[cellsE] at f1;have hb1:Below w.heap.size w (w.alloc (.cells #[.int .i64 k,.int .i64 s,.int .i64 lv,.int .i64 ok,.int .i64 oy,.int .i64 oh,.int .i64 ov] 71)):=below_allocs1 _ _;generalize w.alloc (.cells #[.int .i64 k,.int .i64 s,.int .i64 lv,.int .i64 ok,.int .i64 oy,.int .i64 oh,.int .i64 ov] 71)=A1 at*;generalize hg1:w.heap.size=g1 at*;have HG:=Lib.hid hg1;clear hg1;refine (HB.out _).mono ?_;rintro z w1 ⟨g,rfl,hg,hg',hq,b0,b1,b2,b3,b4⟩;have f2:=f1.below hq;have hb2:=hb1.trans (hq.mono (Nat.le_of_lt f1.1));go_wp2_with fail;refine (HO.out g _ b0 b1 b2 b3 b4).mono ?_;rintro z w2 ⟨rfl,hq2⟩;have f3:=f2.below hq2;have hb3:=hb2.trans (hq2.mono (Nat.le_of_lt f2.1));have l:=f3.1;obtain⟨x0,x1,x2,x3,x4,x5,x6⟩:=f3.cells;clear f1 f2 f3 hb1 hb2 hq hq2 hg hg' b0 b1 b2 b3 b4 HB HO;go_wp2_with fail
 all_goals
  go_ret;refine⟨ret_b ?_,by rw[HG.out];exact hb3.alloc (Nat.le_of_lt l) _⟩;simp[eqB, *]
theorem rok_any (e:En) (w:World):
 ∃ b:Bool,(b=true↔V e)∧Calls Tryz.prog 23 #[enV e] w fun z w'=>z=.returned (.bool b)∧Below w.heap.size w w':=by
 refine⟨_,?_,rok_core e _ w rfl⟩;simp only[Bool.and_eq_true,eqB_iff,bne_iff_ne];constructor
 · rintro ⟨h1,h2⟩;exact V.of_ref h2 h1
 · intro h
   obtain⟨h1,h2,h3,h4,h5⟩:=h.ref;refine⟨by rw[h1,h2,h3,h4,h5];exact h.again,?_⟩
   rcases h with ⟨_,_,h|h|h|h⟩<;>omega
def inB (n:Int):Bool:=decide (0≤n∧n≤255)
theorem low1_in (n:Int) (h:inB n=true) (w:World):Calls Tryz.prog 111 #[.int .i64 n] w fun e w'=>e=.returned (.bool false)∧w=w':=by
 obtain⟨h1,h2⟩:=of_decide_eq_true h;have h3:decide (n<0)=false:=by simpa using h1
 have h4:decide (255<n)=false:=by simpa using h2
 clear h h1 h2;go_enter Tryz.func111,Tryz.ntmps111;go_wp2;go_ret;exact⟨rfl,rfl⟩
theorem low1_out (n:Int) (h:inB n=false) (w:World):Calls Tryz.prog 111 #[.int .i64 n] w fun e w'=>e=.returned (.bool true)∧w=w':=by
 have h1:=of_decide_eq_false h;clear h
 by_cases h2:n<0
 · clear h1
   go_enter Tryz.func111,Tryz.ntmps111;go_wp2;go_ret;exact⟨rfl,rfl⟩
 · have h3:255<n:=by omega
   clear h1;go_enter Tryz.func111,Tryz.ntmps111;go_wp2;go_ret;exact⟨rfl,rfl⟩
def IdxPost (zs:List Int) (w:World) (e:Ending) (w':World):Prop:=∃ r:Int,e=.returned (.int .i64 r)∧decide (0≤r)=!(zs.all inB)∧w=w'
theorem index_any (g off cap:Nat) (zs:List Int) (hm:zs.length≤1000000) (w:World) (hc:∀ i,i<zs.length→w.cell? ⟨g,off+i,none⟩=some (.int .i64 (zs.getD i 0))):
 Calls Tryz.prog 139 #[.slice (some ⟨g,off,none⟩) zs.length cap,.func (.func 111) #[] #[]] w (IdxPost zs w):=by
 obtain⟨n,hn⟩:∃ n,zs.length=n:=⟨_,rfl⟩
 rw[hn] at hc hm ⊢;have HN:=Lib.hid hn;have HC:=Lib.hid hc;clear hn hc;go_enter Tryz.func139,Tryz.ntmps139;go_wp2
 go_loop [8] (fun i=>∃ k:Nat,k≤n∧i=.int .i64 k∧(zs.take k).all inB=true) (fun i=>n - (intOf i).toNat)
 case atStart=>exact⟨0,by omega,rfl,by simp⟩
 case round=>
  obtain⟨k,hk,rfl,hall⟩:=hrel;have HA:=Lib.hid hall;clear hall
  by_cases hlt:k<n
  · have c:=HC.out k hlt
    have i1:(0:Int)≤(k:Int):=by omega
    have i2:(k:Int)<(n:Int):=by omega
    have hlen:=HN.out;have hget:zs.getD k 0=zs[k]'(by omega):=by simp[List.getD_eq_getElem?_getD,List.getElem?_eq_getElem (show k<zs.length by omega)]
    have htake:zs.take (k+1)=zs.take k++[zs.getD k 0]:=by rw[hget,List.take_succ_eq_append_getElem (by omega)]
    have hmem:zs.getD k 0∈zs:=by rw[hget];exact List.getElem_mem _
    generalize zs.getD k 0=z at*
    by_cases hz:inB z=true
    · have hnext:(zs.take (k+1)).all inB=true:=by rw[htake,List.all_append,HA.out];simp[hz]
      have HX:=Lib.hid hnext;clear hlen hget htake hmem hnext;go_wp2_with (go_at_call 111;refine (low1_in _ hz _).mono ?_;rintro e w' ⟨rfl,rfl⟩)
      go_round
      case rel=>exact⟨k+1,by omega,by go_num,HX.out⟩
      case measure=>simp[intOf];omega
    · have hz':inB z=false:=by simpa using hz
      have hno:zs.all inB=false:=by
       rw[List.all_eq_false];exact⟨z,hmem,by simp[hz']⟩
      have HX:=Lib.hid hno;clear hlen hget htake hmem hno hz;go_wp2_with (go_at_call 111;refine (low1_out _ hz' _).mono ?_;rintro e w' ⟨rfl,rfl⟩);go_ret;exact⟨k,rfl,by rw[HX.out];simp,rfl⟩
  · obtain rfl:k=n:=by omega
    have hyes:zs.all inB=true:=by have:=HA.out;rwa [List.take_of_length_le (by have:=HN.out;omega)] at this
    have HX:=Lib.hid hyes;clear hyes hlt;go_wp2;go_ret;exact⟨-1,rfl,by rw[HX.out];rfl,rfl⟩
theorem low_any (g off cap:Nat) (zs:List Int) (hm:zs.length≤1000000) (w:World) (hc:∀ i,i<zs.length→w.cell? ⟨g,off+i,none⟩=some (.int .i64 (zs.getD i 0))):
 Calls Tryz.prog 88 #[.slice (some ⟨g,off,none⟩) zs.length cap] w fun e w'=>e=.returned (.bool (zs.all inB))∧w=w':=by
 have HI:=Lib.hid (index_any g off cap zs hm w hc);generalize zs.length=n at*;have H:∀ b,zs.all inB=b→Calls Tryz.prog 88 #[.slice (some ⟨g,off,none⟩) n cap] w fun e w'=>e=.returned (.bool b)∧w=w':=by
  intro b hb;have HB:=Lib.hid hb;clear hb hc;go_enter Tryz.func88,Tryz.ntmps88;go_wp2_with (first|(go_at_call 139;refine HI.out.mono ?_;rintro e w' ⟨r,rfl,hr,rfl⟩;rw[HB.out] at hr)|go_in);go_ret;exact⟨rfl,rfl⟩
 exact H _ rfl
def PutNo (w:World) (z:Ending) (w':World):Prop:=z=.returned (.tuple #[.slice none 0 0,.bool false])∧Below w.heap.size w w'
set_option maxHeartbeats 1000000 in
theorem put_no_other (k s lv ok oy oh ov:Int) (hk:(k==2)=false) (hz:[wrap64 (k - 1),s,lv,ok,lv,oy,0].all inB=false) (w:World):
 Calls Tryz.prog 62 #[enV ⟨k,s,lv,ok,oy,oh,ov⟩] w (PutNo w):=by
 have HL:=Lib.hid (fun g W h=>low_any g 0 7 [wrap64 (k - 1),s,lv,ok,lv,oy,0] (by simp) W h);have HZ:=Lib.hid hz;clear hz;go_enter Tryz.func62,Tryz.ntmps62;go_wp2_with fail
 go_quiet (fail)
 go_wp2_with fail;refine (HL.out _ _ ?_).mono ?_
 · intro i hi
   match i,hi with
   |0,_=>go_simp
   |1,_=>go_simp
   |2,_=>go_simp
   |3,_=>go_simp
   |4,_=>go_simp
   |5,_=>go_simp
   |6,_=>go_simp
 rintro z w' ⟨rfl,rfl⟩;rw[HZ.out];go_wp2_with fail
 go_ret2
 exact⟨rfl,by (repeat (first|(with_reducible exact Below.refl _ _)|((with_reducible refine Below.setCell ?_ ?_ _);rotate_left;focus (first|(simp;done)|(simp;omega)))|(with_reducible refine below_drewN ?_ _)|(with_reducible refine Below.drew ?_)|((with_reducible refine Below.alloc ?_ ?_ _);rotate_left;focus (first|(simp;done)|(simp;omega)))))⟩
set_option maxHeartbeats 1000000 in
theorem put_no_two (s lv ok oy oh ov:Int) (ho:(ok==5)=false) (hz:[1,s,lv,ok,wrap64 (ok*8),oy,ov].all inB=false) (w:World):
 Calls Tryz.prog 62 #[enV ⟨2,s,lv,ok,oy,oh,ov⟩] w (PutNo w):=by
 have HL:=Lib.hid (fun g W h=>low_any g 0 7 [1,s,lv,ok,wrap64 (ok*8),oy,ov] (by simp) W h);have HZ:=Lib.hid hz;clear hz;go_enter Tryz.func62,Tryz.ntmps62;go_wp2_with fail
 go_quiet (fail)
 go_wp2_with fail;refine (HL.out _ _ ?_).mono ?_
 · intro i hi
   match i,hi with
   |0,_=>go_simp
   |1,_=>go_simp
   |2,_=>go_simp
   |3,_=>go_simp
   |4,_=>go_simp
   |5,_=>go_simp
   |6,_=>go_simp
 rintro z w' ⟨rfl,rfl⟩;rw[HZ.out];go_wp2_with fail
 go_ret2
 exact⟨rfl,by (repeat (first|(with_reducible exact Below.refl _ _)|((with_reducible refine Below.setCell ?_ ?_ _);rotate_left;focus (first|(simp;done)|(simp;omega)))|(with_reducible refine below_drewN ?_ _)|(with_reducible refine Below.drew ?_)|((with_reducible refine Below.alloc ?_ ?_ _);rotate_left;focus (first|(simp;done)|(simp;omega)))))⟩
set_option maxHeartbeats 1000000 in
theorem put_no_scan (s lv oy oh ov:Int) (hz:[1,s,lv,5,40,oy,oh].all inB=false) (w:World):
 Calls Tryz.prog 62 #[enV ⟨2,s,lv,5,oy,oh,ov⟩] w (PutNo w):=by
 have HL:=Lib.hid (fun g W h=>low_any g 0 7 [1,s,lv,5,40,oy,oh] (by simp) W h);have HZ:=Lib.hid hz;clear hz;go_enter Tryz.func62,Tryz.ntmps62;go_wp2_with fail
 go_quiet (fail)
 go_wp2_with fail;refine (HL.out _ _ ?_).mono ?_
 · intro i hi
   match i,hi with
   |0,_=>go_simp
   |1,_=>go_simp
   |2,_=>go_simp
   |3,_=>go_simp
   |4,_=>go_simp
   |5,_=>go_simp
   |6,_=>go_simp
 rintro z w' ⟨rfl,rfl⟩;rw[HZ.out];go_wp2_with fail
 go_ret2
 exact⟨rfl,by (repeat (first|(with_reducible exact Below.refl _ _)|((with_reducible refine Below.setCell ?_ ?_ _);rotate_left;focus (first|(simp;done)|(simp;omega)))|(with_reducible refine below_drewN ?_ _)|(with_reducible refine Below.drew ?_)|((with_reducible refine Below.alloc ?_ ?_ _);rotate_left;focus (first|(simp;done)|(simp;omega)))))⟩
theorem run_eqE (a0 a1 a2 a3 a4 a5 a6 b0 b1 b2 b3 b4 b5 b6:Int) (w:World):
 (binOp .eql 71 (.agg #[.int .i64 a0,.int .i64 a1,.int .i64 a2,.int .i64 a3,.int .i64 a4,.int .i64 a5,.int .i64 a6]) (.agg #[.int .i64 b0,.int .i64 b1,.int .i64 b2,.int .i64 b3,.int .i64 b4,.int .i64 b5,.int .i64 b6])).run Tryz.prog w=.ok (.bool (eqB ⟨a0,a1,a2,a3,a4,a5,a6⟩ ⟨b0,b1,b2,b3,b4,b5,b6⟩)) w:=by
 unfold eqB;go_simp
 repeat' split
 all_goals simp[*]
theorem keep7 {w w1:World} {g:Nat} {a0 a1 a2 a3 a4 a5 a6:Int} (h:g<w.heap.size∧w.cell? ⟨g,0,none⟩=some (.int .i64 a0)∧w.cell? ⟨g,1,none⟩=some (.int .i64 a1)∧w.cell? ⟨g,2,none⟩=some (.int .i64 a2)∧w.cell? ⟨g,3,none⟩=some (.int .i64 a3)∧w.cell? ⟨g,4,none⟩=some (.int .i64 a4)∧w.cell? ⟨g,5,none⟩=some (.int .i64 a5)∧w.cell? ⟨g,6,none⟩=some (.int .i64 a6)) (hq:Below w.heap.size w w1):g<w1.heap.size∧w1.cell? ⟨g,0,none⟩=some (.int .i64 a0)∧w1.cell? ⟨g,1,none⟩=some (.int .i64 a1)∧w1.cell? ⟨g,2,none⟩=some (.int .i64 a2)∧w1.cell? ⟨g,3,none⟩=some (.int .i64 a3)∧w1.cell? ⟨g,4,none⟩=some (.int .i64 a4)∧w1.cell? ⟨g,5,none⟩=some (.int .i64 a5)∧w1.cell? ⟨g,6,none⟩=some (.int .i64 a6):=by
 obtain⟨h,h0,h1,h2,h3,h4,h5,h6⟩:=h;exact⟨Nat.lt_of_lt_of_le h hq.size,(hq.cell (p:=⟨g,0,none⟩) h).trans h0,(hq.cell (p:=⟨g,1,none⟩) h).trans h1,(hq.cell (p:=⟨g,2,none⟩) h).trans h2,(hq.cell (p:=⟨g,3,none⟩) h).trans h3,(hq.cell (p:=⟨g,4,none⟩) h).trans h4,(hq.cell (p:=⟨g,5,none⟩) h).trans h5,(hq.cell (p:=⟨g,6,none⟩) h).trans h6⟩
def PutYes (w:World) (b:Bool) (b0 b1 b2 b3 b4:Int) (z:Ending) (w':World):Prop:=
 ∃ g,z=.returned (.tuple #[.slice (some ⟨g,0,none⟩) 5 5,.bool b])∧w.heap.size≤g∧g<w'.heap.size∧Below w.heap.size w w'∧
  w'.cell? ⟨g,0,none⟩=some (.int .u8 b0)∧w'.cell? ⟨g,1,none⟩=some (.int .u8 b1)∧w'.cell? ⟨g,2,none⟩=some (.int .u8 b2)∧w'.cell? ⟨g,3,none⟩=some (.int .u8 b3)∧w'.cell? ⟨g,4,none⟩=some (.int .u8 b4)
set_option maxHeartbeats 2000000 in
theorem put_yes_other (k s lv ok oy oh ov:Int) (hk:(k==2)=false) (h5:(k !=5)=true) (k1:1≤k) (k2:k≤256) (s1:0≤s) (s2:s≤255) (l1:0≤lv) (l2:lv≤255) (o1:0≤ok) (o2:ok≤255) (y1:0≤oy) (y2:oy≤255) (w:World):
 Calls Tryz.prog 62 #[enV ⟨k,s,lv,ok,oy,oh,ov⟩] w (PutYes w (eqB (enE (k - 1) (s) (lv) (oy) (0)) ⟨k,s,lv,ok,oy,oh,ov⟩) (k - 1) (s) (lv) (oy) (0)):=by
 have HL:=Lib.hid (fun g W h=>low_any g 0 7 [k - 1,s,lv,ok,lv,oy,0] (by simp) W h);have HZ:Hid ([k - 1,s,lv,ok,lv,oy,0].all inB=true):=by simp[RowKit.Hid,inB];omega
 have HE:=Lib.hid (fun W h0 h1 h2 h3 h4=>entry_any (w.heap.size+1+1) 0 5 5 (by omega) (k - 1) (s) (lv) (oy) (0) (by omega) (by omega) (by omega) (by omega) (by omega) (by omega) (by omega) (by omega) (by omega) (by omega) W h0 h1 h2 h3 h4);generalize (enE (k - 1) (s) (lv) (oy) (0))=X at*;obtain⟨xk,xs,xlv,xok,xoy,xoh,xov⟩:=X;go_enter Tryz.func62,Tryz.ntmps62;go_wp2_with fail
 go_quiet (fail)
 go_wp2_with fail;refine (HL.out _ _ ?_).mono ?_
 · intro i hi
   match i,hi with
   |0,_=>go_simp
   |1,_=>go_simp
   |2,_=>go_simp
   |3,_=>go_simp
   |4,_=>go_simp
   |5,_=>go_simp
   |6,_=>go_simp
 rintro z w' ⟨rfl,rfl⟩;rw[HZ.out];go_wp2_with fail;obtain⟨W,hW,fe,fb,hb⟩:∃ W,W=(((w.alloc (.cells #[.int .i64 k,.int .i64 s,.int .i64 lv,.int .i64 ok,.int .i64 oy,.int .i64 oh,.int .i64 ov] 71)).drewN nq).alloc (.cells #[.int .i64 (k - 1),.int .i64 s,.int .i64 lv,.int .i64 ok,.int .i64 lv,.int .i64 oy,.int .i64 0] 3)).alloc (.cells #[.int .u8 (k - 1),.int .u8 s,.int .u8 lv,.int .u8 oy,.int .u8 0] 5)∧
  (w.heap.size<W.heap.size∧W.cell? ⟨w.heap.size,0,none⟩=some (.int .i64 k)∧W.cell? ⟨w.heap.size,1,none⟩=some (.int .i64 s)∧W.cell? ⟨w.heap.size,2,none⟩=some (.int .i64 lv)∧W.cell? ⟨w.heap.size,3,none⟩=some (.int .i64 ok)∧W.cell? ⟨w.heap.size,4,none⟩=some (.int .i64 oy)∧W.cell? ⟨w.heap.size,5,none⟩=some (.int .i64 oh)∧W.cell? ⟨w.heap.size,6,none⟩=some (.int .i64 ov))∧
  (w.heap.size+1+1<W.heap.size∧W.cell? ⟨w.heap.size+1+1,0,none⟩=some (.int .u8 (k - 1))∧W.cell? ⟨w.heap.size+1+1,1,none⟩=some (.int .u8 s)∧W.cell? ⟨w.heap.size+1+1,2,none⟩=some (.int .u8 lv)∧W.cell? ⟨w.heap.size+1+1,3,none⟩=some (.int .u8 oy)∧W.cell? ⟨w.heap.size+1+1,4,none⟩=some (.int .u8 0))∧Below w.heap.size w W:=
  ⟨_,rfl,⟨by simp;omega,by go_simp,by go_simp,by go_simp,by go_simp,by go_simp,by go_simp,by go_simp⟩,⟨by simp,by go_simp,by go_simp,by go_simp,by go_simp,by go_simp⟩,by (repeat (first|(with_reducible exact Below.refl _ _)|((with_reducible refine Below.setCell ?_ ?_ _);rotate_left;focus (first|(simp;done)|(simp;omega)))|(with_reducible refine below_drewN ?_ _)|(with_reducible refine Below.drew ?_)|((with_reducible refine Below.alloc ?_ ?_ _);rotate_left;focus (first|(simp;done)|(simp;omega)))))⟩
 rw[←hW];clear hW HL HZ;obtain⟨l0,x0,x1,x2,x3,x4,x5,x6⟩:=fe;have hcmp:=run_eqE xk xs xlv xok xoy xoh xov k s lv ok oy oh ov
 go_region_held3 (fun w'=>w.heap.size<w'.heap.size∧w'.cell? ⟨w.heap.size,0,none⟩=some (.int .i64 k)∧w'.cell? ⟨w.heap.size,1,none⟩=some (.int .i64 s)∧w'.cell? ⟨w.heap.size,2,none⟩=some (.int .i64 lv)∧w'.cell? ⟨w.heap.size,3,none⟩=some (.int .i64 ok)∧w'.cell? ⟨w.heap.size,4,none⟩=some (.int .i64 oy)∧w'.cell? ⟨w.heap.size,5,none⟩=some (.int .i64 oh)∧w'.cell? ⟨w.heap.size,6,none⟩=some (.int .i64 ov)) (first|exact⟨l0,x0,x1,x2,x3,x4,x5,x6⟩|exact keep7 (by assumption) (by assumption)|go_keep) ((go_at_call 89;refine (HE.out W.drew fb.2.1 fb.2.2.1 fb.2.2.2.1 fb.2.2.2.2.1 fb.2.2.2.2.2).mono ?_;rintro z w1 ⟨rfl,hq⟩))
 obtain⟨m0,m1,m2,m3,m4,m5⟩:=fb;go_wp2
 go_ret2
 exact⟨w.heap.size+1+1,rfl,by omega,Nat.lt_of_lt_of_le m0 hq.size,hb.drew.trans (hq.mono hb.size),(hq.cell (p:=⟨w.heap.size+1+1,0,none⟩) m0).trans m1,(hq.cell (p:=⟨w.heap.size+1+1,1,none⟩) m0).trans m2,(hq.cell (p:=⟨w.heap.size+1+1,2,none⟩) m0).trans m3,(hq.cell (p:=⟨w.heap.size+1+1,3,none⟩) m0).trans m4,(hq.cell (p:=⟨w.heap.size+1+1,4,none⟩) m0).trans m5⟩
set_option maxHeartbeats 2000000 in
theorem put_yes_two (s lv ok oy oh ov:Int) (ho:(ok==5)=false) (s1:0≤s) (s2:s≤255) (l1:0≤lv) (l2:lv≤255) (o1:0≤ok) (o2:ok*8≤255) (y1:0≤oy) (y2:oy≤255) (v1:0≤ov) (v2:ov≤255) (w:World):
 Calls Tryz.prog 62 #[enV ⟨2,s,lv,ok,oy,oh,ov⟩] w (PutYes w (eqB (enE (1) (s) (ok*8) (oy) (ov)) ⟨2,s,lv,ok,oy,oh,ov⟩) (1) (s) (ok*8) (oy) (ov)):=by
 have HL:=Lib.hid (fun g W h=>low_any g 0 7 [1,s,lv,ok,ok*8,oy,ov] (by simp) W h);have HZ:Hid ([1,s,lv,ok,ok*8,oy,ov].all inB=true):=by simp[RowKit.Hid,inB];omega
 have HE:=Lib.hid (fun W h0 h1 h2 h3 h4=>entry_any (w.heap.size+1+1) 0 5 5 (by omega) (1) (s) (ok*8) (oy) (ov) (by omega) (by omega) (by omega) (by omega) (by omega) (by omega) (by omega) (by omega) (by omega) (by omega) W h0 h1 h2 h3 h4);generalize (enE (1) (s) (ok*8) (oy) (ov))=X at*;obtain⟨xk,xs,xlv,xok,xoy,xoh,xov⟩:=X;go_enter Tryz.func62,Tryz.ntmps62;go_wp2_with fail
 go_quiet (fail)
 go_wp2_with fail;refine (HL.out _ _ ?_).mono ?_
 · intro i hi
   match i,hi with
   |0,_=>go_simp
   |1,_=>go_simp
   |2,_=>go_simp
   |3,_=>go_simp
   |4,_=>go_simp
   |5,_=>go_simp
   |6,_=>go_simp
 rintro z w' ⟨rfl,rfl⟩;rw[HZ.out];go_wp2_with fail;obtain⟨W,hW,fe,fb,hb⟩:∃ W,W=(((w.alloc (.cells #[.int .i64 2,.int .i64 s,.int .i64 lv,.int .i64 ok,.int .i64 oy,.int .i64 oh,.int .i64 ov] 71)).drewN nq).alloc (.cells #[.int .i64 1,.int .i64 s,.int .i64 lv,.int .i64 ok,.int .i64 (ok*8),.int .i64 oy,.int .i64 ov] 3)).alloc (.cells #[.int .u8 1,.int .u8 s,.int .u8 (ok*8),.int .u8 oy,.int .u8 ov] 5)∧
  (w.heap.size<W.heap.size∧W.cell? ⟨w.heap.size,0,none⟩=some (.int .i64 2)∧W.cell? ⟨w.heap.size,1,none⟩=some (.int .i64 s)∧W.cell? ⟨w.heap.size,2,none⟩=some (.int .i64 lv)∧W.cell? ⟨w.heap.size,3,none⟩=some (.int .i64 ok)∧W.cell? ⟨w.heap.size,4,none⟩=some (.int .i64 oy)∧W.cell? ⟨w.heap.size,5,none⟩=some (.int .i64 oh)∧W.cell? ⟨w.heap.size,6,none⟩=some (.int .i64 ov))∧
  (w.heap.size+1+1<W.heap.size∧W.cell? ⟨w.heap.size+1+1,0,none⟩=some (.int .u8 1)∧W.cell? ⟨w.heap.size+1+1,1,none⟩=some (.int .u8 s)∧W.cell? ⟨w.heap.size+1+1,2,none⟩=some (.int .u8 (ok*8))∧W.cell? ⟨w.heap.size+1+1,3,none⟩=some (.int .u8 oy)∧W.cell? ⟨w.heap.size+1+1,4,none⟩=some (.int .u8 ov))∧Below w.heap.size w W:=
  ⟨_,rfl,⟨by simp;omega,by go_simp,by go_simp,by go_simp,by go_simp,by go_simp,by go_simp,by go_simp⟩,⟨by simp,by go_simp,by go_simp,by go_simp,by go_simp,by go_simp⟩,by (repeat (first|(with_reducible exact Below.refl _ _)|((with_reducible refine Below.setCell ?_ ?_ _);rotate_left;focus (first|(simp;done)|(simp;omega)))|(with_reducible refine below_drewN ?_ _)|(with_reducible refine Below.drew ?_)|((with_reducible refine Below.alloc ?_ ?_ _);rotate_left;focus (first|(simp;done)|(simp;omega)))))⟩
 rw[←hW];clear hW HL HZ;obtain⟨l0,x0,x1,x2,x3,x4,x5,x6⟩:=fe;have hcmp:=run_eqE xk xs xlv xok xoy xoh xov 2 s lv ok oy oh ov
 go_region_held3 (fun w'=>w.heap.size<w'.heap.size∧w'.cell? ⟨w.heap.size,0,none⟩=some (.int .i64 2)∧w'.cell? ⟨w.heap.size,1,none⟩=some (.int .i64 s)∧w'.cell? ⟨w.heap.size,2,none⟩=some (.int .i64 lv)∧w'.cell? ⟨w.heap.size,3,none⟩=some (.int .i64 ok)∧w'.cell? ⟨w.heap.size,4,none⟩=some (.int .i64 oy)∧w'.cell? ⟨w.heap.size,5,none⟩=some (.int .i64 oh)∧w'.cell? ⟨w.heap.size,6,none⟩=some (.int .i64 ov)) (first|exact⟨l0,x0,x1,x2,x3,x4,x5,x6⟩|exact keep7 (by assumption) (by assumption)|go_keep) ((go_at_call 89;refine (HE.out W.drew fb.2.1 fb.2.2.1 fb.2.2.2.1 fb.2.2.2.2.1 fb.2.2.2.2.2).mono ?_;rintro z w1 ⟨rfl,hq⟩))
 obtain⟨m0,m1,m2,m3,m4,m5⟩:=fb;go_wp2
 go_ret2
 exact⟨w.heap.size+1+1,rfl,by omega,Nat.lt_of_lt_of_le m0 hq.size,hb.drew.trans (hq.mono hb.size),(hq.cell (p:=⟨w.heap.size+1+1,0,none⟩) m0).trans m1,(hq.cell (p:=⟨w.heap.size+1+1,1,none⟩) m0).trans m2,(hq.cell (p:=⟨w.heap.size+1+1,2,none⟩) m0).trans m3,(hq.cell (p:=⟨w.heap.size+1+1,3,none⟩) m0).trans m4,(hq.cell (p:=⟨w.heap.size+1+1,4,none⟩) m0).trans m5⟩
set_option maxHeartbeats 2000000 in
theorem put_yes_scan (s lv oy oh ov:Int) (s1:0≤s) (s2:s≤255) (l1:0≤lv) (l2:lv≤255) (y1:0≤oy) (y2:oy≤255) (h1:0≤oh) (h2:oh≤255) (w:World):
 Calls Tryz.prog 62 #[enV ⟨2,s,lv,5,oy,oh,ov⟩] w (PutYes w (eqB (enE (1) (s) (40) (oy) (oh)) ⟨2,s,lv,5,oy,oh,ov⟩) (1) (s) (40) (oy) (oh)):=by
 have HL:=Lib.hid (fun g W h=>low_any g 0 7 [1,s,lv,5,40,oy,oh] (by simp) W h);have HZ:Hid ([1,s,lv,5,40,oy,oh].all inB=true):=by simp[RowKit.Hid,inB];omega
 have HE:=Lib.hid (fun W h0 h1 h2 h3 h4=>entry_any (w.heap.size+1+1) 0 5 5 (by omega) (1) (s) (40) (oy) (oh) (by omega) (by omega) (by omega) (by omega) (by omega) (by omega) (by omega) (by omega) (by omega) (by omega) W h0 h1 h2 h3 h4);generalize (enE (1) (s) (40) (oy) (oh))=X at*;obtain⟨xk,xs,xlv,xok,xoy,xoh,xov⟩:=X;go_enter Tryz.func62,Tryz.ntmps62;go_wp2_with fail
 go_quiet (fail)
 go_wp2_with fail;refine (HL.out _ _ ?_).mono ?_
 · intro i hi
   match i,hi with
   |0,_=>go_simp
   |1,_=>go_simp
   |2,_=>go_simp
   |3,_=>go_simp
   |4,_=>go_simp
   |5,_=>go_simp
   |6,_=>go_simp
 rintro z w' ⟨rfl,rfl⟩;rw[HZ.out];go_wp2_with fail;obtain⟨W,hW,fe,fb,hb⟩:∃ W,W=(((w.alloc (.cells #[.int .i64 2,.int .i64 s,.int .i64 lv,.int .i64 5,.int .i64 oy,.int .i64 oh,.int .i64 ov] 71)).drewN nq).alloc (.cells #[.int .i64 1,.int .i64 s,.int .i64 lv,.int .i64 5,.int .i64 40,.int .i64 oy,.int .i64 oh] 3)).alloc (.cells #[.int .u8 1,.int .u8 s,.int .u8 40,.int .u8 oy,.int .u8 oh] 5)∧
  (w.heap.size<W.heap.size∧W.cell? ⟨w.heap.size,0,none⟩=some (.int .i64 2)∧W.cell? ⟨w.heap.size,1,none⟩=some (.int .i64 s)∧W.cell? ⟨w.heap.size,2,none⟩=some (.int .i64 lv)∧W.cell? ⟨w.heap.size,3,none⟩=some (.int .i64 5)∧W.cell? ⟨w.heap.size,4,none⟩=some (.int .i64 oy)∧W.cell? ⟨w.heap.size,5,none⟩=some (.int .i64 oh)∧W.cell? ⟨w.heap.size,6,none⟩=some (.int .i64 ov))∧
  (w.heap.size+1+1<W.heap.size∧W.cell? ⟨w.heap.size+1+1,0,none⟩=some (.int .u8 1)∧W.cell? ⟨w.heap.size+1+1,1,none⟩=some (.int .u8 s)∧W.cell? ⟨w.heap.size+1+1,2,none⟩=some (.int .u8 40)∧W.cell? ⟨w.heap.size+1+1,3,none⟩=some (.int .u8 oy)∧W.cell? ⟨w.heap.size+1+1,4,none⟩=some (.int .u8 oh))∧Below w.heap.size w W:=
  ⟨_,rfl,⟨by simp;omega,by go_simp,by go_simp,by go_simp,by go_simp,by go_simp,by go_simp,by go_simp⟩,⟨by simp,by go_simp,by go_simp,by go_simp,by go_simp,by go_simp⟩,by (repeat (first|(with_reducible exact Below.refl _ _)|((with_reducible refine Below.setCell ?_ ?_ _);rotate_left;focus (first|(simp;done)|(simp;omega)))|(with_reducible refine below_drewN ?_ _)|(with_reducible refine Below.drew ?_)|((with_reducible refine Below.alloc ?_ ?_ _);rotate_left;focus (first|(simp;done)|(simp;omega)))))⟩
 rw[←hW];clear hW HL HZ;obtain⟨l0,x0,x1,x2,x3,x4,x5,x6⟩:=fe;have hcmp:=run_eqE xk xs xlv xok xoy xoh xov 2 s lv 5 oy oh ov
 go_region_held3 (fun w'=>w.heap.size<w'.heap.size∧w'.cell? ⟨w.heap.size,0,none⟩=some (.int .i64 2)∧w'.cell? ⟨w.heap.size,1,none⟩=some (.int .i64 s)∧w'.cell? ⟨w.heap.size,2,none⟩=some (.int .i64 lv)∧w'.cell? ⟨w.heap.size,3,none⟩=some (.int .i64 5)∧w'.cell? ⟨w.heap.size,4,none⟩=some (.int .i64 oy)∧w'.cell? ⟨w.heap.size,5,none⟩=some (.int .i64 oh)∧w'.cell? ⟨w.heap.size,6,none⟩=some (.int .i64 ov)) (first|exact⟨l0,x0,x1,x2,x3,x4,x5,x6⟩|exact keep7 (by assumption) (by assumption)|go_keep) ((go_at_call 89;refine (HE.out W.drew fb.2.1 fb.2.2.1 fb.2.2.2.1 fb.2.2.2.2.1 fb.2.2.2.2.2).mono ?_;rintro z w1 ⟨rfl,hq⟩))
 obtain⟨m0,m1,m2,m3,m4,m5⟩:=fb;go_wp2
 go_ret2
 exact⟨w.heap.size+1+1,rfl,by omega,Nat.lt_of_lt_of_le m0 hq.size,hb.drew.trans (hq.mono hb.size),(hq.cell (p:=⟨w.heap.size+1+1,0,none⟩) m0).trans m1,(hq.cell (p:=⟨w.heap.size+1+1,1,none⟩) m0).trans m2,(hq.cell (p:=⟨w.heap.size+1+1,2,none⟩) m0).trans m3,(hq.cell (p:=⟨w.heap.size+1+1,3,none⟩) m0).trans m4,(hq.cell (p:=⟨w.heap.size+1+1,4,none⟩) m0).trans m5⟩
set_option maxHeartbeats 2000000 in
theorem put_yes_bad (s lv ok oy oh ov:Int) (s1:0≤s) (s2:s≤255) (l1:0≤lv) (l2:lv≤255) (o1:0≤ok) (o2:ok≤255) (y1:0≤oy) (y2:oy≤255) (w:World):
 Calls Tryz.prog 62 #[enV ⟨5,s,lv,ok,oy,oh,ov⟩] w (PutYes w false 4 s lv oy 0):=by
 have HL:=Lib.hid (fun g W h=>low_any g 0 7 [4,s,lv,ok,lv,oy,0] (by simp) W h);have HZ:Hid ([4,s,lv,ok,lv,oy,0].all inB=true):=by simp[RowKit.Hid,inB];omega
 go_enter Tryz.func62,Tryz.ntmps62;go_wp2_with fail
 go_quiet (fail)
 go_wp2_with fail;refine (HL.out _ _ ?_).mono ?_
 · intro i hi
   match i,hi with
   |0,_=>go_simp
   |1,_=>go_simp
   |2,_=>go_simp
   |3,_=>go_simp
   |4,_=>go_simp
   |5,_=>go_simp
   |6,_=>go_simp
 rintro z w' ⟨rfl,rfl⟩;rw[HZ.out];go_wp2_with fail
 go_quiet (fail)
 go_wp2
 go_ret2
 exact⟨w.heap.size+1+1,rfl,by omega,by simp,by (repeat (first|(with_reducible exact Below.refl _ _)|((with_reducible refine Below.setCell ?_ ?_ _);rotate_left;focus (first|(simp;done)|(simp;omega)))|(with_reducible refine below_drewN ?_ _)|(with_reducible refine Below.drew ?_)|((with_reducible refine Below.alloc ?_ ?_ _);rotate_left;focus (first|(simp;done)|(simp;omega))))),by go_simp,by go_simp,by go_simp,by go_simp,by go_simp⟩
end Go.Proofs.YthicolbbmjfkfaaGreat.Plan
namespace Go.Proofs.YthicolbbmjfkfaaGreat.Em
open Go.ChangeShapes Go.WideShapes Go.ChangeAt Go.RowKit En
set_option linter.unusedVariables false
set_option linter.unusedSimpArgs false
set_option maxRecDepth 100000
set_option maxHeartbeats 1600000
section
variable {B:WBook} {be:Nat} {w0 w w':World} {ks:List Kept} {W:Wd}
end
theorem issue_many {A:Book} {σ:St} {w:World} (hL:Live A σ w) (s:Nat) (hs:s<8) (t:Txn) (ht:σ.txns.getD s none=some t) (o:En.Op) (ho:opOk o=true) (he:opEnds o=false) (hn:σ.calls.getD s none=none) (hop:12≤t.ops):
 Calls Tryz.prog 33 #[.pointer (some ⟨A.be,0,none⟩),zi (s:Int),.agg #[zi (o.kind:Int),zi (o.key:Int),zi (o.hi:Int),zi (o.value:Int)]] w fun e w'=>e=.returned (zi 65)∧Below w.heap.size w w':=by
 obtain⟨r0,g0,f0⟩:=allocs1 hL.rep #[zi (o.kind:Int),zi (o.key:Int),zi (o.hi:Int),zi (o.value:Int)] 27;have hsok:=zH (sessionOk s hs);have hok:=zH (opOk_true o ho);have hen:=zH (ends_op o);rw[he] at hen;have b1:(s:Int)<8:=by omega
 have b0:(0:Int)≤(s:Int):=by omega
 have HW:Hid (∀ w',Below (w.alloc (.cells #[zi (o.kind:Int),zi (o.key:Int),zi (o.hi:Int),zi (o.value:Int)] 27)).heap.size (w.alloc (.cells #[zi (o.kind:Int),zi (o.key:Int),zi (o.hi:Int),zi (o.value:Int)] 27)) w'→Below w.heap.size w w'∧(w'.cell? ⟨w.heap.size,0,none⟩=some (zi (o.kind:Int))∧w'.cell? ⟨w.heap.size,1,none⟩=some (zi (o.key:Int))∧w'.cell? ⟨w.heap.size,2,none⟩=some (zi (o.hi:Int))∧w'.cell? ⟨w.heap.size,3,none⟩=some (zi (o.value:Int)))∧w'.cell? ⟨A.be,5+s,none⟩=some (.pointer (some ⟨A.bt s,0,none⟩))∧w'.cell? ⟨A.be,13+s,none⟩=some (.pointer none)∧w'.cell? ⟨A.bt s,5,none⟩=some (zi (t.ops:Int))):=by
  intro w' hb;have r:=r0.below hb;have f:=f0.grow (Grow.below (L:=A.L) hb);have h:=r.eng (5+s) (engCs_txn A σ hs);have h2:=r.eng (13+s) (engCs_call A σ hs);have e:A.tp σ s=.pointer (some ⟨A.bt s,0,none⟩):=by unfold Book.tp;rw[ht]
  rw[e] at h;rw[hL.idle s hs hn] at h2;exact⟨((Below.refl _ _).alloc (Nat.le_refl _) _).trans (hb.mono (by simp)),⟨f.cell 0 rfl,f.cell 1 rfl,f.cell 2 rfl,f.cell 3 rfl⟩,h,h2,r.txn ht 5 rfl⟩
 obtain⟨hb0,⟨o0,o1,o2,o3⟩,v1,v2,v3⟩:=HW.out _ (Below.refl _ _);have HB0:=zH hb0;have d1:decide ((12:Int)≤(t.ops:Int))=true:=by simp;omega
 have d2:((12:Int)≤(t.ops:Int))=True:=by simp;omega
 have d3:(12≤t.ops)=True:=by simp;omega
 clear hL r0 g0 f0 hs ho he hn hop ht hb0;go_enter Tryz.func33,Tryz.ntmps33;go_wp2_with (first|(go_at_call 40;refine (hsok.out _).mono ?_;rintro e w' ⟨rfl,rfl⟩)|(go_at_call 68;refine (hok.out _).mono ?_;rintro e w1 ⟨rfl,hb⟩;obtain⟨_,⟨y0,y1,y2,y3⟩,x1,x2,x3⟩:=HW.out w1 hb;have H1:=zH hb;clear hb)|(go_at_call 69;refine (hen.out _).mono ?_;rintro e w2 ⟨rfl,hb2⟩;have HB2:=zH (HW.out w2 (H1.out.trans (hb2.mono H1.out.size))).1;clear hb2));go_ret;exact⟨rfl,HB2.out⟩
section
variable {B:WBook} {be:Nat} {w0 w w':World} {ks:List Kept} {W:Wd}
end
def PS (w w':World):Prop:=∀ (g:Nat) (cs:Array Value),w.heap[g]? =some (Obj.cells cs 152)→w'.heap[g]? =w.heap[g]?
theorem PS.trans {w w1 w2:World} (h:PS w w1) (k:PS w1 w2):PS w w2:=fun g cs hg=>(k g cs ((h g cs hg).trans hg)).trans (h g cs hg)
theorem PS.below {w w':World} (h:Below w.heap.size w w'):PS w w':=fun g cs hg=>h.block g (lt_of hg)
theorem PS.grown {w w' : World} {ob : Option Nat} (h : w.grownBy w' ob) (ht : ∀ (g : Nat), ob = some g → ∃ (cs : Array Value) (T : TypeId), w.heap[g]? = some (Obj.cells cs T) ∧ T ≠ 152) : PS w w' := fun g cs hg => h.block g (lt_of hg) (by
  intro e
  obtain⟨cs',T,h1,h2⟩:=ht g e.symm
  rw[hg] at h1
  simp only[Option.some.injEq,Obj.cells.injEq] at h1
  exact h2 h1.2.1.symm)
theorem PS.but {w w' : World} {b : Nat} {cs : Array Value} {T : TypeId} (h : But b w w') (hb : w.heap[b]? = some (.cells cs T)) (hT : T ≠ 152) : PS w w' := fun g cs' hg => h.block g (by
  rintro rfl
  rw[hb] at hg
  simp only[Option.some.injEq,Obj.cells.injEq] at hg
  exact hT hg.2.1)
theorem own_ps {w w':World} {base:Nat} {v:Value} {n:Nat} {xs:List Value} (h:w.ownsRow base 152 2 v n xs) (hp:PS w w'):w'.ownsRow base 152 2 v n xs:=by
 rcases h.2 with ⟨e1,e2⟩|⟨g,cap',cur,hv,hb',hg,hx1,hx2,hx3,hx4⟩
 · exact⟨h.1,.inl ⟨e1,e2⟩⟩
 · exact⟨h.1,.inr ⟨g,cap',cur,hv,hb',(hp g _ hg).trans hg,hx1,hx2,hx3,hx4⟩⟩
def EvO (base:Nat) (w:World):List Ev→List Value→Prop
 |[],xs=>xs=[]
 |e::l,xs=>∃ vp ys,xs=evCs e vp++ys∧w.ownsRow base 152 2 vp e.res.pairs.length (pairCs e.res.pairs)∧EvO base w l ys
theorem EvO.ps {base:Nat} {w w':World} (hp:PS w w'):∀ {l:List Ev} {xs:List Value},EvO base w l xs→EvO base w' l xs
 |[],_,h=>h
 |_::_,_,⟨vp,ys,h1,h2,h3⟩=>⟨vp,ys,h1,own_ps h2 hp,EvO.ps hp h3⟩
theorem EvO.snoc {base:Nat} {w:World} {e:Ev} {vp:Value} (hp:w.ownsRow base 152 2 vp e.res.pairs.length (pairCs e.res.pairs)):∀ {l:List Ev} {xs:List Value},EvO base w l xs→EvO base w (l++[e]) (xs++evCs e vp)
 |[],xs,h=>by
  have h0:xs=[]:=h;subst h0;exact⟨vp,[],by simp,hp,rfl⟩
 |_::_,_,⟨v,ys,h1,h2,h3⟩=>⟨v,ys++evCs e vp,by rw[h1,List.append_assoc],h2,EvO.snoc hp h3⟩
theorem Evs.at {L:Lab} {w:World}:∀ {l:List Ev} {xs:List Value},Evs L w l xs→∀ {k:Nat} {e:Ev},l[k]? =some e→∃ vp,PRow L w vp (pairCs e.res.pairs)∧∀ j,j<12→xs[k*12+j]? =(evCs e vp)[j]?
 |[],_,_,_,_,h=>by cases h
 |e'::l,xs,⟨vp,ys,h1,h2,h3⟩,0,e,h=>by
  obtain rfl:e'=e:=by simpa using h
  refine⟨vp,h2,fun j hj=>?_⟩;rw[h1,Nat.zero_mul,Nat.zero_add,List.getElem?_append_left (by exact hj)]
 |e'::l,xs,⟨vp,ys,h1,h2,h3⟩,k+1,e,h=>by
  obtain⟨vq,g1,g2⟩:=Evs.at h3 (k:=k) (e:=e) (by simpa using h);refine⟨vq,g1,fun j hj=>?_⟩;rw[h1,List.getElem?_append_right (by show 12≤_;omega),show (k+1)*12+j - (evCs e' vp).length=k*12+j by show _ - 12=_;omega];exact g2 j hj
theorem infoEv:(Tryz.prog.info? 62).map (fun i=>(i.zero,i.size,i.bytes))=some (some (.agg #[zi 0,zi 0,zu 0,zi 0,zi 0,zi 0,zi 0,zi 0,zi 0,.slice none 0 0,zi 0,zi 0]),12,112):=by kernel_rfl
theorem own_low {w:World} {base base':Nat} {e:TypeId} {size:Nat} {v:Value} {n:Nat} {xs:List Value} (h:w.ownsRow base e size v n xs) (hb:base'≤base):w.ownsRow base' e size v n xs:=by
 rcases h.2 with ⟨e1,e2⟩|⟨g,cap',cur,hv,hb',hg,hx⟩
 · exact⟨h.1,.inl ⟨e1,e2⟩⟩
 · exact⟨h.1,.inr ⟨g,cap',cur,hv,Nat.le_trans hb hb',hg,hx⟩⟩
theorem own_head {w:World} {base:Nat} {e:TypeId} {size:Nat} {v:Value} {n:Nat} {xs:List Value} (h:w.ownsRow base e size v n xs) (hn:0<n):∃ g cap,v=.slice (some ⟨g,0,none⟩) n cap∧∃ cur,w.heap[g]? =some (.cells cur e):=by
 rcases h.2 with ⟨_,h0⟩|⟨g,cap,cur,hv,hb,hg,hnc,hcm,_⟩
 · omega
 · exact⟨g,cap,hv,cur,hg⟩
theorem tale_any {A:Book} {σ:St} {w:World} (hR:Rep A σ w) (hn:σ.tale.length<100000) (hp:∀ e∈σ.tale,e.res.pairs.length≤1000000):
 Calls Tryz.prog 15 #[.pointer (some ⟨A.be,0,none⟩)] w fun e w'=>∃ v cs,e=.returned v∧w'.ownsRow w.heap.size 62 12 v σ.tale.length cs∧EvO w.heap.size w' σ.tale cs∧Below w.heap.size w w':=by
 obtain⟨ii,hii,hz0,hz1,hz2⟩:=info_parts infoEv;have e24:w.cell? ⟨A.be,24,none⟩=some A.vtale:=hR.eng 24 rfl;obtain⟨ta,tc,hv,_⟩:=Ow.own_form (hR.mem.all .tale).1;rw[hv] at e24;obtain⟨n,hnn⟩:∃ n,n=σ.tale.length:=⟨_,rfl⟩
 rw[←hnn] at hv e24 hn ⊢;have H0:=zH (zA hR (zA hn (zA hp (zA hv hnn))));clear hR hn hp hv hnn;go_enter Tryz.func15,Tryz.ntmps15;go_wp2
 go_loopw [3,11] (fun l i wr=>∃ (k:Nat) (cs:List Value),i=zi (k:Int)∧k≤n∧wr.ownsRow w.heap.size 62 12 l k cs∧EvO w.heap.size wr (σ.tale.take k) cs∧Below w.heap.size w wr) (fun _ i _=>n - (intOf i).toNat)
 case atStart=>exact⟨0,[],rfl,Nat.zero_le _,World.ownsRow_nil _ _ _ _,rfl,Below.refl _ _⟩
 case round=>
  obtain⟨k,cs,rfl,hkn,hown,hev,hb⟩:=hrel;obtain⟨la,lc,rfl,hlc1,hlc2,_⟩:=Ow.own_form hown;obtain⟨hR,hn,hp,hv,hnn⟩:=H0.out
  by_cases hlt:k<n
  · obtain⟨ev,hek⟩:∃ ev,σ.tale[k]? =some ev:=⟨_,List.getElem?_eq_getElem (by omega)⟩
    have hr:=hR.below hb;have ht:wr.ownsRow 0 62 12 A.vtale σ.tale.length A.taleCs:=(hr.mem.all .tale).1;rw[←hnn] at ht;obtain⟨gt,tc',hv',_⟩:=own_head ht (by omega);rw[hv] at hv';simp only[Value.slice.injEq] at hv';obtain⟨rfl,_,rfl⟩:=hv';obtain⟨vp,hpr,hcs⟩:=Evs.at hr.ev hek;obtain⟨pa,pn,pc,rfl⟩:=frow_form hpr.1;have hpn:ev.res.pairs.length=pn:=by
     obtain⟨_,_,_,e0,h1,_⟩:=hpr.1;simp only[Value.slice.injEq] at e0;rw[pairCs_len] at h1;omega
    have hpl:=hp ev (List.mem_of_getElem? hek);rw[hv] at ht;have hX:∀ j v,j<12→(evCs ev (.slice pa pn pc))[j]? =some v→wr.cell? ⟨gt,k*12+j,none⟩=some v:=fun j v hj hj2=>by
     rw[ht.cellAt (k*12+j) (by omega),hcs j hj];exact hj2
    have X0:=hX 0 _ (by omega) rfl;rw[Nat.add_zero] at X0;have X1:=hX 1 _ (by omega) rfl;have X2:=hX 2 _ (by omega) rfl;have X3:=hX 3 _ (by omega) rfl;have X4:=hX 4 _ (by omega) rfl;have X5:=hX 5 _ (by omega) rfl;have X6:=hX 6 _ (by omega) rfl;have X7:=hX 7 _ (by omega) rfl;have X8:=hX 8 _ (by omega) rfl;have X9:=hX 9 _ (by omega) rfl;have X10:=hX 10 _ (by omega) rfl;have X11:=hX 11 _ (by omega) rfl;have HC:Hid (∀ w1,Below wr.heap.size wr w1→Calls Tryz.prog 53 #[.agg #[zi (ev.res.e:Int),zi (ev.res.value:Int),.slice pa pn pc,zi (ev.res.over:Int),zi (ev.res.reason:Int)]] w1 fun e w'=>∃ qa qc,e=.returned (.agg #[zi (ev.res.e:Int),zi (ev.res.value:Int),.slice qa pn qc,zi (ev.res.over:Int),zi (ev.res.reason:Int)])∧w'.ownsRow w1.heap.size 152 2 (.slice qa pn qc) pn (pairCs ev.res.pairs)∧Below w1.heap.size w1 w'):=fun w1 hb1=>copied_any w1 _ _ _ _ pa pn pc ev.res.pairs (FRow.row (hpr.1.grow (Grow.below hb1))) hpn (by omega)
    have b0:((k:Int)<(n:Int))=True:=by simp;omega
    have b1:(k:Int)<(n:Int):=by omega
    have b2:(0:Int)≤(k:Int):=by omega
    have n3:IntKind.i64.wrap ((k:Int)+1)=(k:Int)+1:=by rw[IntKind.wrap_i64];omega
    have HX:=zH (zA hown (zA hev (zA hb (zA hek (zA hlt (zA hpn (zA hn hnn)))))));clear hown hev hb hek hlt hpn hn hnn hR hp hv hr ht hpr hcs hpl hX hkn;have HCA:Hid (∀ w1,w1=wr.alloc (.cells #[zi (ev.kind:Int),zi (ev.t:Int),zu (ev.n:Int),zi (ev.op.kind:Int),zi (ev.op.key:Int),zi (ev.op.hi:Int),zi (ev.op.value:Int),zi (ev.res.e:Int),zi (ev.res.value:Int),.slice pa pn pc,zi (ev.res.over:Int),zi (ev.res.reason:Int)] 62)→(w1.cell? ⟨wr.heap.size,7,none⟩=some (zi (ev.res.e:Int))∧w1.cell? ⟨wr.heap.size,8,none⟩=some (zi (ev.res.value:Int))∧w1.cell? ⟨wr.heap.size,9,none⟩=some (.slice pa pn pc)∧w1.cell? ⟨wr.heap.size,10,none⟩=some (zi (ev.res.over:Int))∧w1.cell? ⟨wr.heap.size,11,none⟩=some (zi (ev.res.reason:Int)))):=by
     rintro w1 rfl;have h:=heap_alloc_new wr (.cells #[zi (ev.kind:Int),zi (ev.t:Int),zu (ev.n:Int),zi (ev.op.kind:Int),zi (ev.op.key:Int),zi (ev.op.hi:Int),zi (ev.op.value:Int),zi (ev.res.e:Int),zi (ev.res.value:Int),.slice pa pn pc,zi (ev.res.over:Int),zi (ev.res.reason:Int)] 62);refine⟨?_,?_,?_,?_,?_⟩<;>(rw[cell_of_row _ _ _ _ _ _ h];rfl)
    go_upto_region 5 with fail
    have hb1:Below wr.heap.size wr (wr.alloc (.cells #[zi (ev.kind:Int),zi (ev.t:Int),zu (ev.n:Int),zi (ev.op.kind:Int),zi (ev.op.key:Int),zi (ev.op.hi:Int),zi (ev.op.value:Int),zi (ev.res.e:Int),zi (ev.res.value:Int),.slice pa pn pc,zi (ev.res.over:Int),zi (ev.res.reason:Int)] 62)):=(Below.refl _ _).alloc (Nat.le_refl _) _;have h1:=heap_alloc_new wr (.cells #[zi (ev.kind:Int),zi (ev.t:Int),zu (ev.n:Int),zi (ev.op.kind:Int),zi (ev.op.key:Int),zi (ev.op.hi:Int),zi (ev.op.value:Int),zi (ev.res.e:Int),zi (ev.res.value:Int),.slice pa pn pc,zi (ev.res.over:Int),zi (ev.res.reason:Int)] 62);obtain⟨y7,y8,y9,y10,y11⟩:=HCA.out _ rfl;have HCC:=zH (HC.out _ hb1);have hsz:(wr.alloc (.cells #[zi (ev.kind:Int),zi (ev.t:Int),zu (ev.n:Int),zi (ev.op.kind:Int),zi (ev.op.key:Int),zi (ev.op.hi:Int),zi (ev.op.value:Int),zi (ev.res.e:Int),zi (ev.res.value:Int),.slice pa pn pc,zi (ev.res.over:Int),zi (ev.res.reason:Int)] 62)).heap.size=wr.heap.size+1:=by simp
    have H1:=zH (zA hb1 (zA h1 hsz));clear hb1 h1 HC HCA X0 X1 X2 X3 X4 X5 X6 X7 X8 X9 X10 X11 hsz;generalize wr.alloc _=w1 at*;go_upto_region 6 with (first|(go_at_call 53;refine HCC.out.mono ?_;rintro e w2 ⟨qa,qc,rfl,q1,q2⟩;have hb2:=H1.out.1.trans (q2.mono H1.out.1.size);have h2:w2.heap[wr.heap.size]? =some (.cells #[zi (ev.kind:Int),zi (ev.t:Int),zu (ev.n:Int),zi (ev.op.kind:Int),zi (ev.op.key:Int),zi (ev.op.hi:Int),zi (ev.op.value:Int),zi (ev.res.e:Int),zi (ev.res.value:Int),.slice pa pn pc,zi (ev.res.over:Int),zi (ev.res.reason:Int)] 62):=(q2.block _ (by rw[H1.out.2.2];omega)).trans H1.out.2.1;have H2:=zH (zA q1 (zA q2 (zA hb2 h2)));have thr:=there_of h2;clear q1 q2 hb2 h2)|(refine wpList_store_mid rfl 46 (.tmp 18) (.tmp 17) rfl wr.heap.size 7 #[zi (ev.res.e:Int),zi (ev.res.value:Int),.slice qa pn qc,zi (ev.res.over:Int),zi (ev.res.reason:Int)] rfl rfl (by intro j hj;have h:=thr (7+j) (by simp at hj ⊢;omega);simpa [Nat.add_assoc] using h) (by kernel_rfl) (by simp[Value.oneCell']) ?_;generalize hws:World.setCells _ _ _ _=w3))
    obtain⟨q1,q2,hb2,h2⟩:=H2.out;have h3:w3.heap[wr.heap.size]? =some (.cells #[zi (ev.kind:Int),zi (ev.t:Int),zu (ev.n:Int),zi (ev.op.kind:Int),zi (ev.op.key:Int),zi (ev.op.hi:Int),zi (ev.op.value:Int),zi (ev.res.e:Int),zi (ev.res.value:Int),.slice qa pn qc,zi (ev.res.over:Int),zi (ev.res.reason:Int)] 62):=by
     rw[←hws];have g1:=heap_setCell_same h2 7 (zi (ev.res.e:Int));have g2:=heap_setCell_same g1 8 (zi (ev.res.value:Int));have g3:=heap_setCell_same g2 9 (.slice qa pn qc);have g4:=heap_setCell_same g3 10 (zi (ev.res.over:Int));have g5:=heap_setCell_same g4 11 (zi (ev.res.reason:Int));exact g5
    have hbut:But wr.heap.size w2 w3:=by rw[←hws];exact But.setCells _ _ _ _
    obtain⟨hown,hev,hb,hek,hlt,hpn,hn,hnn⟩:=HX.out;have hsame:∀ b,b<wr.heap.size→w3.heap[b]? =wr.heap[b]? :=fun b hb'=>(hbut.block b (by omega)).trans (hb2.block b hb')
    have hown3:=own_same (w':=w3.alloc (.cells #[zi (ev.kind:Int),zi (ev.t:Int),zu (ev.n:Int),zi (ev.op.kind:Int),zi (ev.op.key:Int),zi (ev.op.hi:Int),zi (ev.op.value:Int),zi (ev.res.e:Int),zi (ev.res.value:Int),.slice qa pn qc,zi (ev.res.over:Int),zi (ev.res.reason:Int)] 62)) hown fun g hg=>(heap_alloc_old _ _ (Nat.lt_of_lt_of_le (hown.lt g hg).2 (by rw[hbut.size];exact hb2.size))).trans (hsame g (hown.lt g hg).2)
    have ps3:PS wr (w3.alloc (.cells #[zi (ev.kind:Int),zi (ev.t:Int),zu (ev.n:Int),zi (ev.op.kind:Int),zi (ev.op.key:Int),zi (ev.op.hi:Int),zi (ev.op.value:Int),zi (ev.res.e:Int),zi (ev.res.value:Int),.slice qa pn qc,zi (ev.res.over:Int),zi (ev.res.reason:Int)] 62)):=((PS.below hb2).trans (PS.but hbut h2 (by decide))).trans (PS.below ((Below.refl _ _).alloc (Nat.le_refl _) _));have ps2:PS w2 (w3.alloc (.cells #[zi (ev.kind:Int),zi (ev.t:Int),zu (ev.n:Int),zi (ev.op.kind:Int),zi (ev.op.key:Int),zi (ev.op.hi:Int),zi (ev.op.value:Int),zi (ev.res.e:Int),zi (ev.res.value:Int),.slice qa pn qc,zi (ev.res.over:Int),zi (ev.res.reason:Int)] 62)):=(PS.but hbut h2 (by decide)).trans (PS.below ((Below.refl _ _).alloc (Nat.le_refl _) _));have hpr:(w3.alloc (.cells #[zi (ev.kind:Int),zi (ev.t:Int),zu (ev.n:Int),zi (ev.op.kind:Int),zi (ev.op.key:Int),zi (ev.op.hi:Int),zi (ev.op.value:Int),zi (ev.res.e:Int),zi (ev.res.value:Int),.slice qa pn qc,zi (ev.res.over:Int),zi (ev.res.reason:Int)] 62)).ownsRow w.heap.size 152 2 (.slice qa pn qc) pn (pairCs ev.res.pairs):=own_low (own_ps q1 ps2) (by rw[H1.out.2.2];have:=hb.size;omega);have hb3:Below w.heap.size w (w3.alloc (.cells #[zi (ev.kind:Int),zi (ev.t:Int),zu (ev.n:Int),zi (ev.op.kind:Int),zi (ev.op.key:Int),zi (ev.op.hi:Int),zi (ev.op.value:Int),zi (ev.res.e:Int),zi (ev.res.value:Int),.slice qa pn qc,zi (ev.res.over:Int),zi (ev.res.reason:Int)] 62)):=by
     refine Below.alloc ⟨?_,?_,?_,?_,?_⟩ (by rw[hbut.size];exact Nat.le_trans hb.size hb2.size) _
     · exact hbut.os.trans (hb2.os.trans hb.os)
     · exact hbut.tape.trans (hb2.tape.trans hb.tape)
     · exact hbut.output.trans (hb2.output.trans hb.output)
     · rw[hbut.size];exact Nat.le_trans hb.size hb2.size
     · exact fun b hb'=>(hsame b (Nat.lt_of_lt_of_le hb' hb.size)).trans (hb.block b hb')
    have htyp:∀ (g:Nat),(Value.slice la k lc).ownBlock=some g→∃ (cs:Array Value) (T:TypeId),(w3.alloc (.cells #[zi (ev.kind:Int),zi (ev.t:Int),zu (ev.n:Int),zi (ev.op.kind:Int),zi (ev.op.key:Int),zi (ev.op.hi:Int),zi (ev.op.value:Int),zi (ev.res.e:Int),zi (ev.res.value:Int),.slice qa pn qc,zi (ev.res.over:Int),zi (ev.res.reason:Int)] 62)).heap[g]? =some (Obj.cells cs T)∧T≠152:=fun g hg=>by
     rcases hown3.2 with ⟨e0,_⟩|⟨g',cap,cur,hv,_,hgc,_⟩
     · simp only[Value.slice.injEq] at e0
       rw[e0.1] at hg;cases hg
     · rw[hv] at hg
       obtain rfl:g'=g:=by simpa [Value.ownBlock] using hg
       exact⟨cur,_,hgc,by decide⟩
    have HZ:=zH (zA hown3 (zA (hev.ps ps3) (zA hpr (zA hb3 (zA htyp (zA hek (zA hlt (zA hpn hn))))))));have Z0:=(show w3.cell? ⟨wr.heap.size,0,none⟩=some _ by rw[cell_of_row _ _ _ _ _ _ h3];rfl)
    have Z1:=(show w3.cell? ⟨wr.heap.size,1,none⟩=some _ by rw[cell_of_row _ _ _ _ _ _ h3];rfl)
    have Z2:=(show w3.cell? ⟨wr.heap.size,2,none⟩=some _ by rw[cell_of_row _ _ _ _ _ _ h3];rfl)
    have Z3:=(show w3.cell? ⟨wr.heap.size,3,none⟩=some _ by rw[cell_of_row _ _ _ _ _ _ h3];rfl)
    have Z4:=(show w3.cell? ⟨wr.heap.size,4,none⟩=some _ by rw[cell_of_row _ _ _ _ _ _ h3];rfl)
    have Z5:=(show w3.cell? ⟨wr.heap.size,5,none⟩=some _ by rw[cell_of_row _ _ _ _ _ _ h3];rfl)
    have Z6:=(show w3.cell? ⟨wr.heap.size,6,none⟩=some _ by rw[cell_of_row _ _ _ _ _ _ h3];rfl)
    have Z7:=(show w3.cell? ⟨wr.heap.size,7,none⟩=some _ by rw[cell_of_row _ _ _ _ _ _ h3];rfl)
    have Z8:=(show w3.cell? ⟨wr.heap.size,8,none⟩=some _ by rw[cell_of_row _ _ _ _ _ _ h3];rfl)
    have Z9:=(show w3.cell? ⟨wr.heap.size,9,none⟩=some _ by rw[cell_of_row _ _ _ _ _ _ h3];rfl)
    have Z10:=(show w3.cell? ⟨wr.heap.size,10,none⟩=some _ by rw[cell_of_row _ _ _ _ _ _ h3];rfl)
    have Z11:=(show w3.cell? ⟨wr.heap.size,11,none⟩=some _ by rw[cell_of_row _ _ _ _ _ _ h3];rfl)
    clear q1 q2 hb2 h2 h3 hbut hown hev hb hek hlt hpn hn hnn hsame hown3 ps3 ps2 hpr hb3 htyp H2 HX H1 HCC hws thr y7 y8 y9 y10 y11;go_wp2_with (refine Ow.wpList_append_to _ rfl (.tmp 19) (.tmp 21) 52 rfl w.heap.size 62 ii _ 12 112 Tryz.underlying52 hii hz0 hz1 hz2 rfl (by decide) (.slice la k lc) k cs rfl HZ.out.1 ⟨w3.heap.size,0,none⟩ 1 1 (by omega) [zi (ev.kind:Int),zi (ev.t:Int),zu (ev.n:Int),zi (ev.op.kind:Int),zi (ev.op.key:Int),zi (ev.op.hi:Int),zi (ev.op.value:Int),zi (ev.res.e:Int),zi (ev.res.value:Int),.slice qa pn qc,zi (ev.res.over:Int),zi (ev.res.reason:Int)] rfl rfl (fun j u hu=>Ow.new_row w3 [zi (ev.kind:Int),zi (ev.t:Int),zu (ev.n:Int),zi (ev.op.kind:Int),zi (ev.op.key:Int),zi (ev.op.hi:Int),zi (ev.op.value:Int),zi (ev.res.e:Int),zi (ev.res.value:Int),.slice qa pn qc,zi (ev.res.over:Int),zi (ev.res.reason:Int)] _ w3.heap.size (by simp) j u hu) (by intro u hu;simp at hu;rcases hu with rfl|rfl|rfl|rfl|rfl|rfl|rfl|rfl|rfl|rfl|rfl|rfl<;>rfl) (by have:=HZ.out.2.2.2.2.2.2.1;have:=HZ.out.2.2.2.2.2.2.2.2;unfold maxLen;omega) (by have:=HZ.out.2.2.2.2.2.2.1;have:=HZ.out.2.2.2.2.2.2.2.2;omega) (HZ.out.2.2.2.1.size) ?_;intro v' w4 q1 q2 q3;obtain⟨av,cv,rfl,_⟩:=Ow.own_form q1;have HY:=zH (zA q1 q2);clear q1 q2 q3)
    go_roundw
    case rel=>
     obtain⟨z1,z2,z3,z4,z5,z6,z7,z8,z9⟩:=HZ.out;obtain⟨q1,q2⟩:=HY.out;have ps4:=PS.grown q2 z5;refine⟨k+1,cs++[zi (ev.kind:Int),zi (ev.t:Int),zu (ev.n:Int),zi (ev.op.kind:Int),zi (ev.op.key:Int),zi (ev.op.hi:Int),zi (ev.op.value:Int),zi (ev.res.e:Int),zi (ev.res.value:Int),.slice qa pn qc,zi (ev.res.over:Int),zi (ev.res.reason:Int)],rfl,z7,q1,?_,⟨q2.os.trans z4.os,q2.tape.trans z4.tape,q2.output.trans z4.output,Nat.le_trans z4.size q2.size,fun b hb=>(q2.block b (Nat.lt_of_lt_of_le hb z4.size) (fun e=>?_)).trans (z4.block b hb)⟩⟩
     · rw[List.take_add_one,z6]
       have h9:EvO w.heap.size w4 (σ.tale.take k++[ev]) (cs++evCs ev (.slice qa pn qc)):=(z2.ps ps4).snoc (by rw[z8];exact own_ps z3 ps4);exact h9
     · have:=(z1.lt b e.symm).1
       omega
    case measure=>have:=HZ.out.2.2.2.2.2.2.1;simp[intOf];omega
  · obtain rfl:k=n:=by omega
    have b0:((k:Int)<(k:Int))=False:=by simp
    have HX:=zH (zA hown (zA hev (zA hb hnn)));clear hown hev hb hnn hlt hkn hn hp hv hR;go_wp2;go_ret;obtain⟨hown,hev,hb,hnn⟩:=HX.out;rw[hnn,List.take_length] at hev;exact⟨_,cs,rfl,hown,hev,hb⟩
def EvR (w:World):List Ev→List Value→Prop
 |[],xs=>xs=[]
 |e::l,xs=>∃ a c ys,xs=evCs e (.slice a e.res.pairs.length c)++ys∧Ow.Row w 0 2 (.slice a e.res.pairs.length c) (pairCs e.res.pairs)∧EvR w l ys
theorem EvR.len {w:World}:∀ {l:List Ev} {xs:List Value},EvR w l xs→xs.length=l.length*12
 |[],_,h=>by rw[show _=_ from h];rfl
 |e::l,_,⟨a,c,ys,h1,_,h3⟩=>by rw[h1,List.length_append,EvR.len h3,List.length_cons];show 12+_=_;omega
theorem EvR.at_ {w:World}:∀ {l:List Ev} {xs:List Value} (_:EvR w l xs) (k:Nat) (e:Ev),l[k]? =some e→∃ a c,(∀ j,j<12→xs[k*12+j]? =(evCs e (.slice a e.res.pairs.length c))[j]?)∧Ow.Row w 0 2 (.slice a e.res.pairs.length c) (pairCs e.res.pairs)
 |[],_,_,k,e,hk=>by simp at hk
 |e0::l,_,⟨a,c,ys,h1,h2,h3⟩,0,e,hk=>by
  simp at hk;subst hk;refine⟨a,c,fun j hj=>?_,h2⟩;rw[h1,List.getElem?_append_left (by show 0*12+j<12;omega)];simp
 |e0::l,_,⟨a,c,ys,h1,h2,h3⟩,k+1,e,hk=>by
  obtain⟨a',c',g1,g2⟩:=EvR.at_ h3 k e (by simpa using hk);refine⟨a',c',fun j hj=>?_,g2⟩;rw[h1,List.getElem?_append_right (by show 12≤_;omega)];rw[show (k+1)*12+j - (evCs e0 (.slice a e0.res.pairs.length c)).length=k*12+j from by show _ - 12=_;omega];exact g1 j hj
theorem row_base {w:World} {base size:Nat} {v:Value} {xs:List Value} (h:Ow.Row w base size v xs):Ow.Row w 0 size v xs:=by
 obtain⟨a,n,cap,h1,h2,h3,h4,h5⟩:=h;refine⟨a,n,cap,h1,h2,h3,h4,?_⟩
 rcases h5 with h5|⟨g,off,e1,e2,e3,e4⟩
 · exact .inl h5
 · exact .inr ⟨g,off,e1,Nat.zero_le _,e3,e4⟩
theorem EvO.evR {base:Nat} {w:World}:∀ {l:List Ev} {xs:List Value},EvO base w l xs→EvR w l xs
 |[],_,h=>h
 |e::l,_,⟨vp,ys,h1,h2,h3⟩=>by
  have hr:=row_base (own_row h2);obtain⟨a,c,rfl,_⟩:=Ow.own_form h2;exact⟨a,c,ys,h1,hr,EvO.evR h3⟩
theorem EvR.below {w w':World} (hb:Below w.heap.size w w'):∀ {l:List Ev} {xs:List Value},EvR w l xs→EvR w' l xs
 |[],_,h=>h
 |e::l,_,⟨a,c,ys,h1,h2,h3⟩=>⟨a,c,ys,h1,h2.below hb,EvR.below hb h3⟩
theorem op_neq (a b c d:Int) (w:World):(binOp .neq 27 (.agg #[zi a,zi b,zi c,zi d]) (.agg #[zi a,zi b,zi c,zi d])).run Tryz.prog w=.ok (.bool false) w:=by
 go_simp
theorem same_events (va vb:Value) (l:List Ev) (ca cb:List Value) (w:World) (hA:Ow.Row w 0 12 va ca) (hB:Ow.Row w 0 12 vb cb) (eA:EvR w l ca) (eB:EvR w l cb):
 Calls Tryz.prog 14 #[va,vb] w fun e w'=>e=.returned (.bool true)∧Below w.heap.size w w':=by
 obtain⟨a,n,cap,rfl,hn,hc,hm,ha⟩:=hA;obtain⟨b,n',cap',rfl,hn',hc',hm',hb⟩:=hB;rw[eA.len] at hn;rw[eB.len] at hn';obtain rfl:n=n':=by omega
 have HX:Hid (l.length=n):=by exact (by omega:l.length=n)
 have EA:=zH eA;have EB:=zH eB;unfold maxLen at hm;have hmax:n≤9223372036854775807:=by omega
 clear hn hn' hm hm' hc hc' eA eB;go_enter Tryz.func14,Tryz.ntmps14;go_wp2
 go_loopw [5] (fun i wr=>(∃ k:Nat,k≤n∧i=zi k)∧Below w.heap.size w wr) (fun i _=>n - (intOf i).toNat)
 case atStart=>exact⟨⟨0,by omega,rfl⟩,Below.refl _ _⟩
 case round=>
  obtain⟨⟨k,hk,rfl⟩,hbel⟩:=hrel
  by_cases hlt:k<n
  · rcases ha with ha|⟨g,off,rfl,_,hg,hcell⟩
    · omega
    rcases hb with hb|⟨g',off',rfl,_,hg',hcell'⟩
    · omega
    obtain⟨e,he⟩:∃ e,l[k]? =some e:=⟨_,List.getElem?_eq_getElem (by rw[HX.out];exact hlt)⟩
    obtain⟨a1,c1,r1,s1⟩:=EA.out.at_ k e he;obtain⟨a2,c2,r2,s2⟩:=EB.out.at_ k e he;have i1:(0:Int)≤(k:Int):=by omega
    have i2:(k:Int)<(n:Int):=by omega
    obtain⟨pn,hpn⟩:∃ pn,pn=e.res.pairs.length:=⟨_,rfl⟩
    rw[←hpn] at r1 r2 s1 s2;have S1:Hid (∀ w',Below wr.heap.size wr w'→Ow.Row w' 0 2 (.slice a1 pn c1) (pairCs e.res.pairs)):=fun w' hb=>s1.below (hbel.trans (hb.mono hbel.size))
    have S2:Hid (∀ w',Below wr.heap.size wr w'→Ow.Row w' 0 2 (.slice a2 pn c2) (pairCs e.res.pairs)):=fun w' hb=>s2.below (hbel.trans (hb.mono hbel.size))
    have kA:∀ w',Below wr.heap.size wr w'→∀ j,j<12→w'.cell? ⟨g,off+(k*12+j),none⟩=(evCs e (.slice a1 pn c1))[j]? :=fun w' hb j hj=>by rw[(hbel.trans (hb.mono hbel.size)).cell (p:=⟨g,off+(k*12+j),none⟩) hg,hcell (k*12+j) (by omega)];exact r1 j hj
    have kB:∀ w',Below wr.heap.size wr w'→∀ j,j<12→w'.cell? ⟨g',off'+(k*12+j),none⟩=(evCs e (.slice a2 pn c2))[j]? :=fun w' hb j hj=>by rw[(hbel.trans (hb.mono hbel.size)).cell (p:=⟨g',off'+(k*12+j),none⟩) hg',hcell' (k*12+j) (by omega)];exact r2 j hj
    have HK:Hid (∀ w',Below wr.heap.size wr w'→w'.cell? ⟨g,off+k*12,none⟩=some (zi (e.kind:Int))∧w'.cell? ⟨g,off+k*12+1,none⟩=some (zi (e.t:Int))∧w'.cell? ⟨g,off+k*12+2,none⟩=some (zu (e.n:Int))∧w'.cell? ⟨g,off+k*12+3,none⟩=some (zi (e.op.kind:Int))∧w'.cell? ⟨g,off+k*12+4,none⟩=some (zi (e.op.key:Int))∧w'.cell? ⟨g,off+k*12+5,none⟩=some (zi (e.op.hi:Int))∧w'.cell? ⟨g,off+k*12+6,none⟩=some (zi (e.op.value:Int))∧w'.cell? ⟨g,off+k*12+7,none⟩=some (zi (e.res.e:Int))∧w'.cell? ⟨g,off+k*12+8,none⟩=some (zi (e.res.value:Int))∧w'.cell? ⟨g,off+k*12+9,none⟩=some (.slice a1 pn c1)∧w'.cell? ⟨g,off+k*12+10,none⟩=some (zi (e.res.over:Int))∧w'.cell? ⟨g,off+k*12+11,none⟩=some (zi (e.res.reason:Int))∧w'.cell? ⟨g',off'+k*12,none⟩=some (zi (e.kind:Int))∧w'.cell? ⟨g',off'+k*12+1,none⟩=some (zi (e.t:Int))∧w'.cell? ⟨g',off'+k*12+2,none⟩=some (zu (e.n:Int))∧w'.cell? ⟨g',off'+k*12+3,none⟩=some (zi (e.op.kind:Int))∧w'.cell? ⟨g',off'+k*12+4,none⟩=some (zi (e.op.key:Int))∧w'.cell? ⟨g',off'+k*12+5,none⟩=some (zi (e.op.hi:Int))∧w'.cell? ⟨g',off'+k*12+6,none⟩=some (zi (e.op.value:Int))∧w'.cell? ⟨g',off'+k*12+7,none⟩=some (zi (e.res.e:Int))∧w'.cell? ⟨g',off'+k*12+8,none⟩=some (zi (e.res.value:Int))∧w'.cell? ⟨g',off'+k*12+9,none⟩=some (.slice a2 pn c2)∧w'.cell? ⟨g',off'+k*12+10,none⟩=some (zi (e.res.over:Int))∧w'.cell? ⟨g',off'+k*12+11,none⟩=some (zi (e.res.reason:Int))):=fun w' hb=>by
     have A1:=kA w' hb;have B1:=kB w' hb;exact⟨A1 0 (by omega),A1 1 (by omega),A1 2 (by omega),A1 3 (by omega),A1 4 (by omega),A1 5 (by omega),A1 6 (by omega),A1 7 (by omega),A1 8 (by omega),A1 9 (by omega),A1 10 (by omega),A1 11 (by omega),B1 0 (by omega),B1 1 (by omega),B1 2 (by omega),B1 3 (by omega),B1 4 (by omega),B1 5 (by omega),B1 6 (by omega),B1 7 (by omega),B1 8 (by omega),B1 9 (by omega),B1 10 (by omega),B1 11 (by omega)⟩
    have HB:=zH hbel;clear hpn he r1 r2 s1 s2 kA kB hcell hcell' hbel hg hg';generalize (e.kind:Int)=z0 at*;generalize (e.t:Int)=z1 at*;generalize (e.n:Int)=z2 at*;generalize (e.op.kind:Int)=z3 at*;generalize (e.op.key:Int)=z4 at*;generalize (e.op.hi:Int)=z5 at*;generalize (e.op.value:Int)=z6 at*;generalize (e.res.e:Int)=z7 at*;generalize (e.res.value:Int)=z8 at*;generalize (e.res.over:Int)=z10 at*;generalize (e.res.reason:Int)=z11 at*;generalize e.res.pairs=ps at*;have hop:=op_neq z3 z4 z5 z6;obtain⟨y0,y1,y2,y3,y4,y5,y6,y7,y8,y9,y10,y11,y12,y13,y14,y15,y16,y17,y18,y19,y20,y21,y22,y23⟩:=HK.out wr (Below.refl _ _);go_upto_region 6 with fail
    go_region_held3 (fun w'=>w'.cell? ⟨g,off+k*12,none⟩=some (zi z0)∧w'.cell? ⟨g,off+k*12+1,none⟩=some (zi z1)∧w'.cell? ⟨g,off+k*12+2,none⟩=some (zu z2)∧w'.cell? ⟨g,off+k*12+3,none⟩=some (zi z3)∧w'.cell? ⟨g,off+k*12+4,none⟩=some (zi z4)∧w'.cell? ⟨g,off+k*12+5,none⟩=some (zi z5)∧w'.cell? ⟨g,off+k*12+6,none⟩=some (zi z6)∧w'.cell? ⟨g,off+k*12+7,none⟩=some (zi z7)∧w'.cell? ⟨g,off+k*12+8,none⟩=some (zi z8)∧w'.cell? ⟨g,off+k*12+9,none⟩=some (.slice a1 pn c1)∧w'.cell? ⟨g,off+k*12+10,none⟩=some (zi z10)∧w'.cell? ⟨g,off+k*12+11,none⟩=some (zi z11)∧w'.cell? ⟨g',off'+k*12,none⟩=some (zi z0)∧w'.cell? ⟨g',off'+k*12+1,none⟩=some (zi z1)∧w'.cell? ⟨g',off'+k*12+2,none⟩=some (zu z2)∧w'.cell? ⟨g',off'+k*12+3,none⟩=some (zi z3)∧w'.cell? ⟨g',off'+k*12+4,none⟩=some (zi z4)∧w'.cell? ⟨g',off'+k*12+5,none⟩=some (zi z5)∧w'.cell? ⟨g',off'+k*12+6,none⟩=some (zi z6)∧w'.cell? ⟨g',off'+k*12+7,none⟩=some (zi z7)∧w'.cell? ⟨g',off'+k*12+8,none⟩=some (zi z8)∧w'.cell? ⟨g',off'+k*12+9,none⟩=some (.slice a2 pn c2)∧w'.cell? ⟨g',off'+k*12+10,none⟩=some (zi z10)∧w'.cell? ⟨g',off'+k*12+11,none⟩=some (zi z11))
     (first|exact⟨y0,y1,y2,y3,y4,y5,y6,y7,y8,y9,y10,y11,y12,y13,y14,y15,y16,y17,y18,y19,y20,y21,y22,y23⟩|assumption|go_keep|exact HK.out _ (by assumption)|exact HK.out _ (Below.drew (Below.refl _ _)))
     (first|(go_at_call 12;refine (same_result z7 z8 z10 z11 a1 a2 pn c1 c2 ps _ (S1.out _ (Below.drew (Below.refl _ _))) (S2.out _ (Below.drew (Below.refl _ _)))).mono ?_;rintro e w6 ⟨rfl,hb6⟩;have hq:=(Below.drew (Below.refl wr.heap.size wr)).trans hb6))
    have HQ:=zH hq;clear hq;go_wp2_with fail;exact⟨⟨⟨k+1,by omega,by go_num⟩,HB.out.trans (HQ.out.mono HB.out.size)⟩,by simp[intOf];omega⟩
  · obtain rfl:k=n:=by omega
    go_wp2_with fail;go_ret;exact⟨rfl,hbel⟩
end Go.Proofs.YthicolbbmjfkfaaGreat.Em
