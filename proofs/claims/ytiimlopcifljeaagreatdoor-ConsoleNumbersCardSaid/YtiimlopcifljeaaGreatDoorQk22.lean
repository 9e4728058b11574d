import Derived.Test.YtiimlopcifljeaaGreatDoorQk14
import Derived.Test.YtiimlopcifljeaaGreatDoorQk21
namespace Go.Proofs.YtiimlopcifljeaaGreatDoor.Cn
open Go.ChangeShapes Go.WideShapes Go.ChangeAt Go.RowKit
set_option linter.unusedVariables false
set_option linter.unusedSimpArgs false
set_option maxRecDepth 100000
set_option maxHeartbeats 1600000
theorem three_mid (w:World) (a b c:Obj):(((w.alloc a).alloc b).alloc c).heap[w.heap.size+1]? =some b:=by
 rw[heap_alloc_old _ _ (by simp)];have:=heap_alloc_new (w.alloc a) b;rw[World.size_alloc] at this;exact this
theorem three_below (w:World) (a b c:Obj):Below w.heap.size w (((w.alloc a).alloc b).alloc c):=
 (((Below.refl _ _).alloc (Nat.le_refl _) _).alloc (by simp) _).alloc (by simp;omega) _
def opW (X Y Z:Array Value) (w:World):World:=((w.alloc (.cells X 23)).alloc (.cells Y 166)).alloc (.cells Z 166)
theorem opW_below (X Y Z:Array Value) (w:World):Below w.heap.size w (opW X Y Z w):=three_below w _ _ _
theorem op_ins (a b d:Int) (w:World):Calls Tryz.prog 95 #[.agg #[.int .i64 3,.int .i64 a,.int .i64 b,.int .i64 d]] w fun e w'=>e=.returned (.agg #[.int .i64 2,.int .i64 b,.int .i64 0,.int .i64 d])∧w'=opW #[.int .i64 3,.int .i64 a,.int .i64 b,.int .i64 d] #[.int .i64 2,.int .i64 b,.int .i64 0,.int .i64 d] #[.int .i64 2,.int .i64 b,.int .i64 0,.int .i64 d] w:=by
 go_enter Tryz.func95,Tryz.ntmps95;go_wp2;refine bodyPost_ret (results_cell_row rfl _ _ (w.heap.size+1) 166 #[.int .i64 2,.int .i64 b,.int .i64 0,.int .i64 d] _ _ rfl (three_mid w _ _ _) Tryz.underlying166 rfl (by kernel_rfl)) rfl ⟨rfl,?_⟩;rfl
theorem op_com (w:World):Calls Tryz.prog 95 #[.agg #[.int .i64 7,.int .i64 0,.int .i64 0,.int .i64 0]] w fun e w'=>e=.returned (.agg #[.int .i64 6,.int .i64 0,.int .i64 0,.int .i64 0])∧w'=opW #[.int .i64 7,.int .i64 0,.int .i64 0,.int .i64 0] #[.int .i64 6,.int .i64 0,.int .i64 0,.int .i64 0] #[.int .i64 6,.int .i64 0,.int .i64 0,.int .i64 0] w:=by
 go_enter Tryz.func95,Tryz.ntmps95;go_wp2;refine bodyPost_ret (results_cell_row rfl _ _ (w.heap.size+1) 166 #[.int .i64 6,.int .i64 0,.int .i64 0,.int .i64 0] _ _ rfl (three_mid w _ _ _) Tryz.underlying166 rfl (by kernel_rfl)) rfl ⟨rfl,?_⟩;rfl
theorem told_ins (v ov re:Int) (va:Option Addr) (vn vc:Nat) (w:World):Calls Tryz.prog 93 #[.int .i64 2,.agg #[.int .i64 0,.int .i64 v,.slice va vn vc,.int .i64 ov,.int .i64 re]] w fun e w'=>e=.returned (.string ⟨#[111,107]⟩)∧Below w.heap.size w w':=by
 have HO:=Lib.hid ok_nil;go_enter Tryz.func93,Tryz.ntmps93;go_wp2_with (go_at_call 21;refine (HO.out _).mono ?_;rintro e w' ⟨rfl,hb⟩);go_ret;exact⟨rfl,((Below.refl _ _).alloc (Nat.le_refl _) _).trans (hb.mono (by simp))⟩
theorem told_com (v ov re:Int) (va:Option Addr) (vn vc:Nat) (w:World):Calls Tryz.prog 93 #[.int .i64 6,.agg #[.int .i64 0,.int .i64 v,.slice va vn vc,.int .i64 ov,.int .i64 re]] w fun e w'=>e=.returned (.string ⟨#[111,107,32,100,111,110,101]⟩)∧Below w.heap.size w w':=by
 have HO:Hid (∀ W:World,W.heap=((w.alloc (.cells #[.int .i64 0,.int .i64 v,.slice va vn vc,.int .i64 ov,.int .i64 re] 168)).alloc (.cells #[.string ⟨#[100,111,110,101]⟩] 9)).heap→Calls Tryz.prog 21 #[.int .i64 0,.slice (some ⟨w.heap.size+1,0,none⟩) 1 1] W fun e w'=>e=.returned (.string ⟨#[111,107,32,100,111,110,101]⟩)∧Below W.heap.size W w'):=by
  intro W hW;refine ok_one ⟨#[100,111,110,101]⟩ (by decide) _ _ W ?_;have:=heap_alloc_new (w.alloc (.cells #[.int .i64 0,.int .i64 v,.slice va vn vc,.int .i64 ov,.int .i64 re] 168)) (.cells #[.string ⟨#[100,111,110,101]⟩] 9);rw[World.size_alloc,←hW] at this;rw[cell_of_row _ _ _ _ _ _ this];rfl
 go_enter Tryz.func93,Tryz.ntmps93;go_wp2_with (go_at_call 21;refine (HO.out _ rfl).mono ?_;rintro e w' ⟨rfl,hb⟩);go_ret;exact⟨rfl,(((Below.refl _ _).alloc (Nat.le_refl _) _).alloc (by simp) _).trans (hb.mono (by simp;omega))⟩
theorem eng_any (kp b:Nat) (w:World) (h:w.cell? ⟨kp,0,none⟩=some (.pointer (some ⟨b,0,none⟩))):Calls Tryz.prog 35 #[.pointer (some ⟨kp,0,none⟩)] w fun e w'=>e=.returned (.pointer (some ⟨b,0,none⟩))∧w=w':=by
 go_enter Tryz.func35,Tryz.ntmps35;go_wp2;go_ret;exact⟨rfl,rfl⟩
theorem wp_append_S {o:Oper} {a:Act} {K:Act→World→Prop} {Q:Exit→Act→World→Prop} (w:World) (s x:Operand)
 (ho:o.op=.call {callee:=.builtin .append,args:=#[s,x],argTypes:=#[27,27]})
 (base:Nat) (v:Value) (n:Nat) (xs:List Value) (hs:a.eval s=v) (hown:w.ownsRow base 9 1 v n xs)
 (xv:Value) (u:Value) (hx:a.eval x=xv) (hr:Ow.Row w 0 1 xv [u]) (h1:u.oneCell'=true) (hn:n<1000000) (hbase:base≤w.heap.size)
 (h:∀ v' w',w'.ownsRow base 9 1 v' (n+1) (xs++[u])→w.grownBy w' v.ownBlock→K (a.put o.dst v') w'):o.wp Tryz.prog a w K Q:=by
 obtain⟨i0,hi,hz0,hz1,hz2⟩:=info_parts infoS;exact Ow.wp_append_row w s x _ ho base _ i0 _ 1 16 Tryz.underlying27 hi hz0 hz1 hz2 rfl (by decide) v n xs hs hown 0 xv [u] hx hr 1 (by simp) (by intro y hy;obtain rfl:=List.mem_singleton.1 hy;exact h1) (by unfold maxLen;omega) (by omega) hbase h
theorem row_new (w:World) (u:Value) (t:TypeId) (W:World) (h:W.heap=(w.alloc (.cells #[u] t)).heap):Ow.Row W 0 1 (.slice (some ⟨w.heap.size,0,none⟩) 1 1) [u]:=by
 refine⟨_,_,_,rfl,rfl,Nat.le_refl _,by decide,.inr ⟨w.heap.size,0,rfl,Nat.zero_le _,by rw[h];simp,fun j hj=>?_⟩⟩;obtain rfl:j=0:=by omega
 have e:W.heap[w.heap.size]? =some (.cells #[u] t):=by rw[h];exact heap_alloc_new w _
 exact cell_of_row _ _ _ _ _ _ e
theorem row_at (w:World) (o:Obj) (u:Value) (t:TypeId) (W:World) (h:W.heap=((w.alloc o).alloc (.cells #[u] t)).heap):Ow.Row W 0 1 (.slice (some ⟨w.heap.size+1,0,none⟩) 1 1) [u]:=by
 have:=row_new (w.alloc o) u t W h;rw[World.size_alloc] at this;exact this
theorem num_at (n:Nat) (h:n<100) (D:Array UInt8) (hD:(Lib.decDigits n).toArray=D) (w:World):Calls Tryz.prog 31 #[.int .i64 (n:Int)] w fun e w'=>e=.returned (.string ⟨D⟩)∧w=w':=by
 subst hD;exact cnum_any n h w
theorem pairs_57 (a off cap:Nat) (w:World) (h0:w.cell? ⟨a,off,none⟩=some (.int .i64 5)) (h1:w.cell? ⟨a,off+1,none⟩=some (.int .i64 7)):
 Calls Tryz.prog 41 #[.slice (some ⟨a,off,none⟩) 1 cap] w fun e w'=>e=.returned (.string ⟨#[111,107,32,53,61,55]⟩)∧Below w.heap.size w w':=by
 have N5:Hid (∀ w,Calls Tryz.prog 31 #[.int .i64 5] w fun e w'=>e=.returned (.string ⟨#[53]⟩)∧w=w'):=num_at 5 (by decide) #[53] (by decide +kernel);have N7:Hid (∀ w,Calls Tryz.prog 31 #[.int .i64 7] w fun e w'=>e=.returned (.string ⟨#[55]⟩)∧w=w'):=num_at 7 (by decide) #[55] (by decide +kernel);have H01:=Lib.hid (And.intro h0 h1);clear h0 h1;go_enter Tryz.func41,Tryz.ntmps41;go_wp2
 go_loopw [3,8] (fun v i wr=>Below w.heap.size w wr∧(i=.int .i64 0∧v=.slice none 0 0∨i=.int .i64 1∧∃ g c,v=.slice (some ⟨g,0,none⟩) 1 c∧wr.cell? ⟨g,0,none⟩=some (.string ⟨#[53,61,55]⟩))) (fun _ i _=>msr 1 i)
 case atStart=>exact⟨Below.refl _ _,.inl ⟨rfl,rfl⟩⟩
 case round=>
  obtain⟨hB,⟨rfl,rfl⟩|⟨rfl,g,c,rfl,hg⟩⟩:=hrel
  · have HB:=Lib.hid hB
    have c0:wr.cell? ⟨a,off,none⟩=some (.int .i64 5):=(hB.cell (World.block_lt_of_cell? _ _ H01.out.1)).trans H01.out.1;have c1:wr.cell? ⟨a,off+1,none⟩=some (.int .i64 7):=(hB.cell (World.block_lt_of_cell? _ _ H01.out.2)).trans H01.out.2;clear hB;have HBS:Hid (w.heap.size≤wr.heap.size):=HB.out.size;have HNIL:Hid (∀ W:World,W.ownsRow wr.heap.size 9 1 (.slice none 0 0) 0 []):=fun W=>World.ownsRow_nil _ _ _ _
    go_wp2_with fail
    go_region_law (first|(refine wp_append_S _ (.tmp 12) (.tmp 21) rfl wr.heap.size (.slice none 0 0) 0 [] rfl (HNIL.out _) (.slice (some ⟨wr.heap.size+1,0,none⟩) 1 1) (.string ((⟨#[53]⟩:ByteArray)++⟨#[61]⟩++⟨#[55]⟩)) rfl (row_at wr (.cells #[.int .i64 5,.int .i64 7] 172) _ 9 _ rfl) rfl (by decide) (by simp<;>omega) ?_;intro v' w2 q1 q2;have Q1:=Lib.hid q1;have Q2:=Lib.hid q2;clear q1 q2)|(go_simp;go_at_call 31;refine (N5.out _).mono ?_;rintro e w' ⟨rfl,rfl⟩)|(go_simp;go_at_call 31;refine (N7.out _).mono ?_;rintro e w' ⟨rfl,rfl⟩))
    all_goals
     obtain⟨g2,cap2,rfl,hn1,hn2,hn3,hn4⟩:=own_pos Q1.out (by decide);have HC:Hid (w2.cell? ⟨g2,0,none⟩=some (.string ⟨#[53,61,55]⟩)):=own_cell Q1.out (j:=0) rfl;have HB2:Hid (Below w.heap.size w w2):=HB.out.trans (((((Below.refl wr.heap.size wr).alloc (Nat.le_refl _) _).alloc (by simp) _).drew.grown Q2.out (by simp;omega) (fun k hk=>by cases hk)).mono HBS.out)
     try go_wp2
     exact⟨⟨HB2.out,.inr ⟨rfl,g2,cap2,rfl,HC.out⟩⟩,by show 1 - (1:Int).toNat<1 - (0:Int).toNat;decide⟩
  · have HB:=Lib.hid hB
    have HO:=Lib.hid (ok_one ⟨#[53,61,55]⟩ (by decide) g c wr hg);clear hB hg;go_wp2_with (go_at_call 21;refine HO.out.mono ?_;rintro e w' ⟨rfl,hb⟩);go_ret;exact⟨rfl,HB.out.trans (hb.mono HB.out.size)⟩
end Go.Proofs.YtiimlopcifljeaaGreatDoor.Cn
