import Derived.Test.YtiimlopcifljeaaGreatDoorQk22
import Derived.Test.YtiimlopcifljeaaGreatDoorQk23
namespace Go.Proofs.YtiimlopcifljeaaGreatDoor.Cn
open Go.ChangeShapes Go.WideShapes Go.ChangeAt Go.RowKit Em En
set_option linter.unusedVariables false
set_option linter.unusedSimpArgs false
set_option maxRecDepth 100000
set_option maxHeartbeats 1600000
def conO (kp:Nat):Obj:=.cells #[.pointer (some ⟨kp,0,none⟩)] 66
def plyO (b:Nat):Obj:=.cells #[.pointer (some ⟨b,0,none⟩)] 89
theorem ets_low {b:Nat} {w0 w:World} {σ:St} {gs:List (Nat×Obj)} (h:ETs b w0 gs σ w):Below w0.heap.size w0 w:=let ⟨_,_,_,g,_⟩:=h.ex;⟨g.os,g.tape,g.output,g.size,fun k hk=>g.block k hk rfl⟩
theorem ets_lib {b:Nat} {w0 w:World} {σ:St} {gs:List (Nat×Obj)} (h:ETs b w0 gs σ w) (hL:LibV w0):LibV w:=hL.below (ets_low h)
theorem ets_cell {b:Nat} {w0 w:World} {σ:St} {gs:List (Nat×Obj)} {k:Nat} {v:Value} {t:TypeId} (h:ETs b w0 gs σ w) (hm:(k,Obj.cells #[v] t)∈gs):w.cell? ⟨k,0,none⟩=some v:=by
 rw[cell_of_row _ _ _ _ _ _ (h.obj hm)];rfl
theorem ets_tail' {b:Nat} {w0 w:World} {σ:St} {p:Nat×Obj} {gs:List (Nat×Obj)} (h:ETs b w0 (p::gs) σ w):ETs b w0 gs σ w:=let ⟨A,e,l,g,t⟩:=h.ex;⟨A,e,l,g,fun q hq=>t q (List.mem_cons_of_mem _ hq)⟩
theorem do_bad {b kc:Nat} {w0 w:World} {gs:List (Nat×Obj)} {σ:St} (h:ETs b w0 gs σ w) (hL:LibV w0) (line:ByteArray) (c0 c1 c2 c3:Int) (er:Nat) (hp:cmR line=([c0,c1,c2,c3],(er:Int))) (h0:0<er) (h1:er<100):
 Calls Tryz.prog 24 #[.pointer (some ⟨kc,0,none⟩),.string line] w fun e w'=>e=.returned (.string (⟨#[101,114,114,111,114,32]⟩++⟨(Lib.decDigits er).toArray⟩))∧ETs b w0 gs σ w':=by
 have HP:=Lib.hid (parse_any line (ets_lib h hL));rw[hp] at HP;replace HP:Hid (Calls Tryz.prog 6 #[.string line] w fun e w'=>e=.returned (.tuple #[.agg #[.int .i64 c0,.int .i64 c1,.int .i64 c2,.int .i64 c3],.int .i64 (er:Int)])∧Below w.heap.size w w'):=HP;have HO:=Lib.hid (fun W=>ok_err er h0 h1 W);have h2:((er:Int) !=0)=true:=by rw[bne_iff_ne];omega
 have h3:¬ (er:Int)=0:=by omega
 have HE:=Lib.hid h;clear h hp h0 h1;generalize (er:Int)=ei at*;go_enter Tryz.func24,Tryz.ntmps24;go_wp2_with (first|(go_at_call 6;refine HP.out.mono ?_;rintro e w2 ⟨rfl,hb⟩;have HB:=Lib.hid (HE.out.below hb);clear hb)|(go_at_call 21;refine (HO.out _).mono ?_;rintro e w3 ⟨rfl,rfl⟩));go_ret;exact⟨rfl,HB.out.alloc _⟩
theorem do_begin {b kc kp:Nat} {w0 w:World} {gs:List (Nat×Obj)} {σ σ1:St} (h:ETs b w0 gs σ w) (hL:LibV w0) (hkc:(kc,conO kp)∈gs) (hkp:(kp,plyO b)∈gs) (line:ByteArray) (s lv id:Nat) (hp:cmR line=([1,(s:Int),(lv:Int),0],0)) (hs:s<8) (hr:beginOk σ s lv=some (σ1,id)) (hid:id<100) (hsz:(⟨(Lib.decDigits id).toArray⟩:ByteArray).size≤1000):
 Calls Tryz.prog 24 #[.pointer (some ⟨kc,0,none⟩),.string line] w fun e w'=>e=.returned (.string ⟨(111::107::32::Lib.decDigits id).toArray⟩)∧ETs b w0 gs σ1 w':=by
 have HP:=Lib.hid (parse_any line (ets_lib h hL));rw[hp] at HP;replace HP:Hid (Calls Tryz.prog 6 #[.string line] w fun e w'=>e=.returned (.tuple #[.agg #[.int .i64 1,.int .i64 (s:Int),.int .i64 (lv:Int),.int .i64 0],.int .i64 0])∧Below w.heap.size w w'):=HP;have HN:=Lib.hid (fun W=>cnum_any id hid W);have HO:=Lib.hid (fun (g:Nat) (W:World) (hg:W.cell? ⟨g,0,none⟩=some (.string ⟨(Lib.decDigits id).toArray⟩))=>ok_one ⟨(Lib.decDigits id).toArray⟩ hsz g 1 W hg);have HB:Hid (∀ gs' w',ETs b w0 gs' σ w'→Calls Tryz.prog 36 #[.pointer (some ⟨b,0,none⟩),.int .i64 (s:Int),.int .i64 (lv:Int)] w' fun e w''=>e=.returned (.tuple #[.int .i64 (id:Int),.int .i64 0])∧ETs b w0 gs' σ1 w''):=fun gs' w' q=>begin_ts q hs hr
 have HE:=Lib.hid h;have HM:=Lib.hid (And.intro hkc hkp);clear h hp hs hr hid hsz hkc hkp hL;generalize (s:Int)=si at*;generalize (lv:Int)=li at*;generalize (id:Int)=di at*;go_enter Tryz.func24,Tryz.ntmps24
 go_wp2_with (first
   |(go_at_call 6;refine HP.out.mono ?_;rintro e w2 ⟨rfl,hb⟩;have H2:=Lib.hid ((HE.out.below hb).new (.cells #[.int .i64 1,.int .i64 si,.int .i64 li,.int .i64 0] 23));clear hb;have u1:=ets_cell H2.out (List.mem_cons_of_mem _ HM.out.1);have u2:=ets_cell H2.out (List.mem_cons_of_mem _ HM.out.2))
   |(go_at_call 35;refine (eng_any kp b _ (by assumption)).mono ?_;rintro e w' ⟨rfl,rfl⟩)
   |(go_at_call 36;refine (HB.out _ _ H2.out).mono ?_;rintro e w3 ⟨rfl,q⟩;have H3:=Lib.hid (ets_tail' q);clear q)
   |(go_at_call 31;refine (HN.out _).mono ?_;rintro e w4 ⟨rfl,rfl⟩)
   |(go_at_call 21;refine (HO.out _ _ (by first|exact World.cell_alloc_new' _ _|simp)).mono ?_;rintro e w5 ⟨rfl,hb⟩;have H5:=Lib.hid ((H3.out.alloc _).below hb);clear hb))
 go_ret;exact⟨rfl,H5.out⟩
theorem row_57 {w:World} {av:Option Addr} {cap:Nat} {l:List (Nat×Nat)} (h:Ow.Row w 0 2 (.slice av l.length cap) (pairCs l)) (hl:l=[(5,7)]):∃ g off,av=some ⟨g,off,none⟩∧w.cell? ⟨g,off,none⟩=some (.int .i64 5)∧w.cell? ⟨g,off+1,none⟩=some (.int .i64 7):=by
 subst hl;obtain⟨a,n,c,e,h1,h2,h3,h4⟩:=h;obtain⟨rfl,rfl,rfl⟩:av=a∧n=1∧cap=c:=by simp at e;exact⟨e.1,e.2.1.symm,e.2.2⟩
 rcases h4 with h4|⟨g,off,rfl,_,_,h5⟩
 · cases h4
 · exact⟨g,off,rfl,h5 0 (by decide),h5 1 (by decide)⟩
theorem do_pairs {b kc kp:Nat} {w0 w:World} {gs:List (Nat×Obj)} {σ:St} (h:ETs b w0 gs σ w) (hL:LibV w0) (hkc:(kc,conO kp)∈gs) (hkp:(kp,plyO b)∈gs) (line:ByteArray) (hp:cmR line=([12,0,0,0],0)) (hok:okPairs σ=true) (hl:σ.pairs=[(5,7)]):
 Calls Tryz.prog 24 #[.pointer (some ⟨kc,0,none⟩),.string line] w fun e w'=>e=.returned (.string ⟨#[111,107,32,53,61,55]⟩)∧ETs b w0 gs σ w':=by
 have HP:=Lib.hid (parse_any line (ets_lib h hL));rw[hp] at HP;replace HP:Hid (Calls Tryz.prog 6 #[.string line] w fun e w'=>e=.returned (.tuple #[.agg #[.int .i64 12,.int .i64 0,.int .i64 0,.int .i64 0],.int .i64 0])∧Below w.heap.size w w'):=HP
 have HB : Hid (∀ gs' w', ETs b w0 gs' σ w' → Calls Tryz.prog 42 #[.pointer (some ⟨b, 0, none⟩)] w' fun e w'' => ∃ g off cap, e = .returned (.slice (some ⟨g, off, none⟩) 1 cap) ∧ (w''.cell? ⟨g, off, none⟩ = some (.int .i64 5) ∧ w''.cell? ⟨g, off + 1, none⟩ = some (.int .i64 7)) ∧ ETs b w0 gs' σ w'') := fun gs' w' q => (pairs_ts q hok).mono (by
   rintro e w'' ⟨av,cap,rfl,hr,q'⟩
   obtain⟨g,off,rfl,r1,r2⟩:=row_57 hr hl
   refine⟨g,off,cap,?_,⟨r1,r2⟩,q'⟩
   rw[hl]
   rfl)
 have HE:=Lib.hid h;have HM:=Lib.hid (And.intro hkc hkp);clear h hp hok hl hkc hkp hL;go_enter Tryz.func24,Tryz.ntmps24
 go_wp2_with (first
   |(go_at_call 6;refine HP.out.mono ?_;rintro e w2 ⟨rfl,hb⟩;have H2:=Lib.hid ((HE.out.below hb).new (.cells #[.int .i64 12,.int .i64 0,.int .i64 0,.int .i64 0] 23));clear hb;have u1:=ets_cell H2.out (List.mem_cons_of_mem _ HM.out.1);have u2:=ets_cell H2.out (List.mem_cons_of_mem _ HM.out.2))
   |(go_at_call 35;refine (eng_any kp b _ (by assumption)).mono ?_;rintro e w' ⟨rfl,rfl⟩)
   |(go_at_call 42;refine (HB.out _ _ H2.out).mono ?_;rintro e w3 ⟨g,off,cap,rfl,hr,q⟩;have HR:=Lib.hid hr;have H3:=Lib.hid (ets_tail' q);clear q hr)
   |(go_at_call 41;refine (pairs_57 g off cap w3 HR.out.1 HR.out.2).mono ?_;rintro e w5 ⟨rfl,hb⟩;have H5:=Lib.hid (H3.out.below hb);clear hb))
 go_ret;exact⟨rfl,H5.out⟩
theorem do_whole {b kc kp:Nat} {w0 w:World} {gs:List (Nat×Obj)} {σ σ2:St} (h:ETs b w0 gs σ w) (hL:LibV w0) (hkc:(kc,conO kp)∈gs) (hkp:(kp,plyO b)∈gs) (line T:ByteArray) (c0 c1 c2 c3:Int) (hc:c0=3∨c0=7) (hp:cmR line=([c0,c1,c2,c3],0))
 (HW:∀ gs' w',ETs b w0 gs' σ w'→(kc,conO kp)∈gs'→(kp,plyO b)∈gs'→Calls Tryz.prog 47 #[.pointer (some ⟨kc,0,none⟩),.agg #[.int .i64 c0,.int .i64 c1,.int .i64 c2,.int .i64 c3]] w' fun e w''=>e=.returned (.string T)∧ETs b w0 gs' σ2 w''):
 Calls Tryz.prog 24 #[.pointer (some ⟨kc,0,none⟩),.string line] w fun e w'=>e=.returned (.string T)∧ETs b w0 gs σ2 w':=by
 have HP:=Lib.hid (parse_any line (ets_lib h hL));rw[hp] at HP;replace HP:Hid (Calls Tryz.prog 6 #[.string line] w fun e w'=>e=.returned (.tuple #[.agg #[.int .i64 c0,.int .i64 c1,.int .i64 c2,.int .i64 c3],.int .i64 0])∧Below w.heap.size w w'):=HP;have HE:=Lib.hid h;have HM:=Lib.hid (And.intro hkc hkp);replace HW:=Lib.hid HW;clear h hp hkc hkp hL
 rcases hc with rfl|rfl
 · go_enter Tryz.func24,Tryz.ntmps24
   go_wp2_with (first
     |(go_at_call 6;refine HP.out.mono ?_;rintro e w2 ⟨rfl,hb⟩;have H2:=Lib.hid ((HE.out.below hb).new (.cells #[.int .i64 3,.int .i64 c1,.int .i64 c2,.int .i64 c3] 23));clear hb;have u1:=ets_cell H2.out (List.mem_cons_of_mem _ HM.out.1);have u2:=ets_cell H2.out (List.mem_cons_of_mem _ HM.out.2))
     |(go_at_call 35;refine (eng_any kp b _ (by assumption)).mono ?_;rintro e w' ⟨rfl,rfl⟩)
     |(go_at_call 47;refine (HW.out _ _ H2.out (List.mem_cons_of_mem _ HM.out.1) (List.mem_cons_of_mem _ HM.out.2)).mono ?_;rintro e w3 ⟨rfl,q⟩;have H3:=Lib.hid (ets_tail' q);clear q))
   go_ret;exact⟨rfl,H3.out⟩
 · go_enter Tryz.func24,Tryz.ntmps24
   go_wp2_with (first
     |(go_at_call 6;refine HP.out.mono ?_;rintro e w2 ⟨rfl,hb⟩;have H2:=Lib.hid ((HE.out.below hb).new (.cells #[.int .i64 7,.int .i64 c1,.int .i64 c2,.int .i64 c3] 23));clear hb;have u1:=ets_cell H2.out (List.mem_cons_of_mem _ HM.out.1);have u2:=ets_cell H2.out (List.mem_cons_of_mem _ HM.out.2))
     |(go_at_call 35;refine (eng_any kp b _ (by assumption)).mono ?_;rintro e w' ⟨rfl,rfl⟩)
     |(go_at_call 47;refine (HW.out _ _ H2.out (List.mem_cons_of_mem _ HM.out.1) (List.mem_cons_of_mem _ HM.out.2)).mono ?_;rintro e w3 ⟨rfl,q⟩;have H3:=Lib.hid (ets_tail' q);clear q))
   go_ret;exact⟨rfl,H3.out⟩
theorem ets_base {b:Nat} {wa w0 w:World} {σ:St} {gs:List (Nat×Obj)} (hb:Below wa.heap.size wa w0) (h:ETs b w0 gs σ w):ETs b wa gs σ w:=by
 obtain⟨A,e,l,g,t⟩:=h.ex;exact⟨A,e,l,(Grow.below hb).trans g,fun p hp=>⟨(t p hp).1,Nat.le_trans hb.size (t p hp).2⟩⟩
theorem ets_base1 {b:Nat} {w0 w:World} {σ:St} {gs:List (Nat×Obj)} {o:Obj} (h:ETs b (w0.alloc o) gs σ w):ETs b w0 gs σ w:=ets_base ((Below.refl _ _).alloc (Nat.le_refl _) _) h
theorem snew_ts (n l:Nat) (h1:1≤n) (h2:n≤256) (h3:1≤l) (h4:l≤1099511627776) (w:World):Calls Tryz.prog 20 #[.agg #[.int .i64 (n:Int),.int .u64 (l:Int)]] w fun e w'=>∃ b kp,e=.returned (.tuple #[.pointer (some ⟨kp,0,none⟩),.int .i64 0])∧ETs b w [(kp,plyO b)] (En.new n l) w':=by
 have HN:=Lib.hid (fun w=>new_ts n l h1 h2 h3 h4 w);clear h1 h2 h3 h4;go_enter Tryz.func20,Tryz.ntmps20;go_wp2_with (go_at_call 30;refine (HN.out _).mono ?_;rintro e w2 ⟨b,rfl,q⟩;have H2:=Lib.hid ((ets_base1 q).new (plyO b));clear q);refine bodyPost_ret (results_tmp2 rfl _ _ _) rfl ⟨_,_,rfl,H2.out⟩
theorem cnew_ts (n l:Nat) (h1:1≤n) (h2:n≤256) (h3:1≤l) (h4:l≤1099511627776) (w:World):Calls Tryz.prog 9 #[.agg #[.int .i64 (n:Int),.int .u64 (l:Int)]] w fun e w'=>∃ b kc kp,e=.returned (.tuple #[.pointer (some ⟨kc,0,none⟩),.int .i64 0])∧ETs b w [(kc,conO kp),(kp,plyO b)] (En.new n l) w':=by
 have HN:=Lib.hid (fun w=>snew_ts n l h1 h2 h3 h4 w);clear h1 h2 h3 h4;go_enter Tryz.func9,Tryz.ntmps9;go_wp2_with (go_at_call 20;refine (HN.out _).mono ?_;rintro e w2 ⟨b,kp,rfl,q⟩;have H2:=Lib.hid ((ets_base1 q).new (conO kp));clear q);refine bodyPost_ret (results_tmp2 rfl _ _ _) rfl ⟨_,_,_,rfl,H2.out⟩
theorem conf_any (w:World):Calls Tryz.prog 12 #[] w fun e w'=>e=.returned (.agg #[.int .i64 60,.int .u64 500])∧Below w.heap.size w w':=by
 go_enter Tryz.func12,Tryz.ntmps12;go_wp2;refine bodyPost_ret (results_cell_row rfl _ _ w.heap.size 35 #[.int .i64 60,.int .u64 500] _ _ rfl (heap_alloc_new _ _) Tryz.underlying35 rfl (by kernel_rfl)) rfl ⟨rfl,(Below.refl _ _).alloc (Nat.le_refl _) _⟩
end Go.Proofs.YtiimlopcifljeaaGreatDoor.Cn
