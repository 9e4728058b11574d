import Derived.Test.YtiimlopcifljeaaGreatDoorQk25
import Derived.Test.YtiimlopcifljeaaGreatDoorQk27
namespace Go.Proofs.YtiimlopcifljeaaGreatDoor.Em
open Go.ChangeShapes Go.WideShapes Go.ChangeAt Go.RowKit En
set_option linter.unusedVariables false
set_option linter.unusedSimpArgs false
set_option maxRecDepth 100000
set_option maxHeartbeats 1600000
theorem newFree (n l:Nat):(new n l).list.free.length=n∧(new n l).worn=0∧(new n l).free.length=0:=by
 unfold St.list new
 simp
theorem newUsed (n l:Nat):(new n l).used=0:=by
 have h:=newFree n l
 have h2:=list_slots (new n l)
 unfold St.used
 rw[h2.1,h.1,h.2.1]
 show n - n - 0=0
 omega
theorem used_ts {b:Nat} {w0 w:World} {gs:List (Nat×Obj)} {σ:St} (h:ETs b w0 gs σ w) (hn:σ.free.length<100000) (hu:σ.list.free.length+σ.worn≤σ.slots):
 Calls Tryz.prog 38 #[.pointer (some ⟨b,0,none⟩)] w fun e w'=>e=.returned (.int .i64 (σ.used:Int))∧ETs b w0 gs σ.list w':=by
 obtain⟨A,rfl,hL,g,t⟩:=h.ex
 refine (used_any hL.rep hL.mp hn hu).mono ?_
 rintro e w' ⟨rfl,A',⟨⟨L,v,m,rfl⟩,pm⟩,hR',g'⟩
 have hc:σ.list.calls=σ.calls:=by unfold St.list;split<;>rfl
 have ek:∀ s,kp {A with L:=L,vfree:=v,mp:=m} σ.list s=kp A σ s:=fun s=>by unfold kp St.c;rw[hc]
 refine⟨rfl,{A with L:=L,vfree:=v,mp:=m},rfl,⟨hR',pm.trans hL.mp,hL.mt,fun s h c hcs=>?_,fun s h hcs=>hL.idle s h (by rw[←hc];exact hcs),hL.sx.keep rfl (by first|exact⟨rfl,rfl⟩|exact sw_list _) g'⟩,g.trans g',fun p hp=>⟨tmp_grow (t p hp).1 g',(t p hp).2⟩⟩
 obtain⟨e1,k,e2,e3⟩:=hL.call s h c (by rw[←hc];exact hcs)
 exact⟨e1,k,e2,by rw[ek];exact e3.grow g'⟩
end Go.Proofs.YtiimlopcifljeaaGreatDoor.Em
namespace Go.Proofs.YtiimlopcifljeaaGreatDoor.Cn
open Go.ChangeShapes Go.WideShapes Go.ChangeAt Go.RowKit Go.Shelf Em En
set_option linter.unusedVariables false
set_option linter.unusedSimpArgs false
set_option maxRecDepth 100000
set_option maxHeartbeats 1600000
theorem do_used {b kc kp:Nat} {w0 w:World} {gs:List (Nat×Obj)} {σ:St} (h:ETs b w0 gs σ w) (hL:LibV w0) (hkc:(kc,conO kp)∈gs) (hkp:(kp,plyO b)∈gs) (line:ByteArray) (hp:cmR line=([10,0,0,0],0)) (hn:σ.free.length<100000) (hu:σ.list.free.length+σ.worn≤σ.slots) (h0:σ.used=0):
 Calls Tryz.prog 24 #[.pointer (some ⟨kc,0,none⟩),.string line] w fun e w'=>e=.returned (.string ⟨#[111,107,32,48]⟩)∧ETs b w0 gs σ.list w':=by
 have HP:=Lib.hid (parse_any line (ets_lib h hL))
 rw[hp] at HP
 replace HP:Hid (Calls Tryz.prog 6 #[.string line] w fun e w'=>e=.returned (.tuple #[.agg #[.int .i64 10,.int .i64 0,.int .i64 0,.int .i64 0],.int .i64 0])∧Below w.heap.size w w'):=HP
 have HN:=Lib.hid (fun W=>cnum_any 0 (by decide) W)
 have HO:=Lib.hid (fun (g:Nat) (W:World) (hg:W.cell? ⟨g,0,none⟩=some (.string ⟨(Lib.decDigits 0).toArray⟩))=>ok_one ⟨(Lib.decDigits 0).toArray⟩ (by decide +kernel) g 1 W hg)
 have HB:Hid (∀ gs' w',ETs b w0 gs' σ w'→Calls Tryz.prog 38 #[.pointer (some ⟨b,0,none⟩)] w' fun e w''=>e=.returned (.int .i64 ((0:Nat):Int))∧ETs b w0 gs' σ.list w''):=fun gs' w' q=>by have:=used_ts q hn hu;rw[h0] at this;exact this
 have HE:=Lib.hid h
 have HM:=Lib.hid (And.intro hkc hkp)
 clear h hp hkc hkp hL hn hu h0
 go_enter Tryz.func24,Tryz.ntmps24
 go_wp2_with (first
   |(go_at_call 6;refine HP.out.mono ?_;rintro e w2 ⟨rfl,hb⟩;have H2:=Lib.hid ((HE.out.below hb).new (.cells #[.int .i64 10,.int .i64 0,.int .i64 0,.int .i64 0] 23));clear hb;have u1:=ets_cell H2.out (List.mem_cons_of_mem _ HM.out.1);have u2:=ets_cell H2.out (List.mem_cons_of_mem _ HM.out.2))
   |(go_at_call 35;refine (eng_any kp b _ (by assumption)).mono ?_;rintro e w' ⟨rfl,rfl⟩)
   |(go_at_call 38;refine (HB.out _ _ H2.out).mono ?_;rintro e w3 ⟨rfl,q⟩;have H3:=Lib.hid (ets_tail' q);clear q)
   |(go_at_call 31;refine (HN.out _).mono ?_;rintro e w4 ⟨rfl,rfl⟩)
   |(go_at_call 21;refine (HO.out _ _ (by first|exact World.cell_alloc_new' _ _|simp)).mono ?_;rintro e w5 ⟨rfl,hb⟩;have H5:=Lib.hid ((H3.out.alloc _).below hb);clear hb))
 go_ret
 exact⟨congrArg (fun x=>Ending.returned (.string x)) (by decide +kernel),H5.out⟩
theorem run_used (n l:Nat) (g1:1≤n) (g2:n≤256) (g3:1≤l) (g4:l≤1099511627776) (w:World) (hL:LibV w):Calls Tryz.prog 11 #[.agg #[.int .i64 (n:Int),.int .u64 (l:Int)],.string ⟨#[117,115,101,100]⟩] w fun e w'=>e=.returned (.string ⟨#[111,107,32,48,10]⟩)∧Below w.heap.size w w':=by
 have hf:=newFree n l
 have hs:=list_slots (En.new n l)
 refine run_any n l g1 g2 g3 g4 ⟨#[117,115,101,100]⟩ (by decide +kernel) 0 (fun _=>⟨#[117,115,101,100]⟩) (fun _=>⟨#[]⟩) (fun _=>0) rfl (fun k hk=>absurd hk (Nat.not_lt_zero k)) (by decide +kernel) (fun k=>if k=0 then En.new n l else (En.new n l).list) (fun k=>if k=0 then [] else [111,107,32,48,10]) rfl rfl ?_ w hL
 intro k hk x hx
 obtain rfl:k=0:=by omega
 rw[if_neg (Nat.lt_irrefl _)] at hx
 subst hx
 exact .inr ⟨⟨by decide +kernel,by decide +kernel,by decide +kernel⟩,⟨#[111,107,32,48]⟩,4,rfl,by decide,by decide,rfl,fun b kc kp w0 W gs hl q h1 h2=>do_used q hl h1 h2 _ (by decide +kernel) (by show (En.new n l).free.length<_;rw[hf.2.2];omega) (by show (En.new n l).list.free.length+(En.new n l).worn≤(En.new n l).slots;rw[hf.1,hf.2.1];exact Nat.le_refl _) (newUsed n l)⟩
theorem ok_er1 (w:World):Calls Tryz.prog 21 #[.int .i64 1,.slice none 0 0] w fun e w'=>e=.returned (.string ⟨#[101,114,114,111,114,32,49]⟩)∧w=w':=by
 have h:=ok_err 1 (by decide) (by decide) w
 have e:(⟨#[101,114,114,111,114,32]⟩:ByteArray)++⟨(Lib.decDigits 1).toArray⟩=⟨#[101,114,114,111,114,32,49]⟩:=by decide +kernel
 rw[e] at h
 exact h
theorem ok_er2 (w:World):Calls Tryz.prog 21 #[.int .i64 2,.slice none 0 0] w fun e w'=>e=.returned (.string ⟨#[101,114,114,111,114,32,50]⟩)∧w=w':=by
 have h:=ok_err 2 (by decide) (by decide) w
 have e:(⟨#[101,114,114,111,114,32]⟩:ByteArray)++⟨(Lib.decDigits 2).toArray⟩=⟨#[101,114,114,111,114,32,50]⟩:=by decide +kernel
 rw[e] at h
 exact h
theorem run_no (sl li:Int) (h:¬ (1≤sl∧sl≤256∧1≤li∧li≤1099511627776)) (s:ByteArray) (w:World):Calls Tryz.prog 11 #[.agg #[.int .i64 sl,.int .u64 li],.string s] w fun e w'=>e=.returned (.string ⟨#[101,114,114,111,114,32,49,10]⟩)∧Below w.heap.size w w':=by
 have HN:=Lib.hid (fun W=>callsIn_wide (n:=2).2 (cnew_no sl li h W))
 have HO:=Lib.hid (fun W=>callsIn_wide (n:=2).2 (ok_er1 W))
 have e9:(⟨#[101,114,114,111,114,32,49]⟩:ByteArray)++⟨#[10]⟩=⟨#[101,114,114,111,114,32,49,10]⟩:=by decide +kernel
 have HB:=Lib.hid (((Below.refl _ w).alloc (Nat.le_refl _) (.cells #[.int .i64 sl,.int .u64 li] 35)))
 clear h
 refine (callsIn_wide (n:=3)).1 ?_
 refine callsIn_of_wp_marks Tryz.func11 rfl trivial ?_ rfl
 simp only[Tryz.ntmps11,List.size_toArray,List.length_cons,List.length_nil,Nat.reduceAdd,Nat.reduceSub,Array.replicate_succ,Array.replicate_zero,List.push_toArray,List.append_toArray,List.nil_append,List.cons_append]
 gi_wp2
 refine⟨trivial,(HN.out _).mono ?_⟩
 rintro e w2 ⟨rfl,hb⟩
 have HB1:=Lib.hid (HB.out.trans (hb.mono (by simp)))
 clear hb
 gi_wp2
 refine⟨trivial,(HO.out _).mono ?_⟩
 rintro e w3 ⟨rfl,rfl⟩
 gi_wp2
 refine⟨_,results_tmp rfl _ _ _,rfl,HB1.out.alloc HB1.out.size _⟩
theorem run_long (n l:Nat) (g1:1≤n) (g2:n≤256) (g3:1≤l) (g4:l≤1099511627776) (s:ByteArray) (hs:(10000:Int)<(s.size:Int)) (w:World):Calls Tryz.prog 11 #[.agg #[.int .i64 (n:Int),.int .u64 (l:Int)],.string s] w fun e w'=>e=.returned (.string ⟨#[101,114,114,111,114,32,50,10]⟩)∧Below w.heap.size w w':=by
 have HN:=Lib.hid (fun W=>callsIn_wide (n:=2).2 (cnew_ts n l g1 g2 g3 g4 W))
 have HO:=Lib.hid (fun W=>callsIn_wide (n:=2).2 (ok_er2 W))
 have e9:(⟨#[101,114,114,111,114,32,50]⟩:ByteArray)++⟨#[10]⟩=⟨#[101,114,114,111,114,32,50,10]⟩:=by decide +kernel
 have HB:=Lib.hid (((Below.refl _ w).alloc (Nat.le_refl _) (.cells #[.int .i64 (n:Int),.int .u64 (l:Int)] 35)))
 have b2:decide ((10000:Int)<(s.size:Int))=true:=decide_eq_true hs
 clear g1 g2 g3 g4
 refine (callsIn_wide (n:=3)).1 ?_
 refine callsIn_of_wp_marks Tryz.func11 rfl trivial ?_ rfl
 simp only[Tryz.ntmps11,List.size_toArray,List.length_cons,List.length_nil,Nat.reduceAdd,Nat.reduceSub,Array.replicate_succ,Array.replicate_zero,List.push_toArray,List.append_toArray,List.nil_append,List.cons_append]
 gi_wp2
 refine⟨trivial,(HN.out _).mono ?_⟩
 rintro e w2 ⟨b,kc,kp,rfl,q⟩
 have HB1:=Lib.hid (HB.out.trans ((ets_low q).mono (by simp)))
 clear q
 gi_wp2
 refine⟨trivial,(HO.out _).mono ?_⟩
 rintro e w3 ⟨rfl,rfl⟩
 gi_wp2
 refine⟨_,results_tmp rfl _ _ _,rfl,HB1.out.alloc HB1.out.size _⟩
end Go.Proofs.YtiimlopcifljeaaGreatDoor.Cn
namespace Go.Proofs.YtiimlopcifljeaaGreatDoor.Cn
open Go.ChangeShapes Go.WideShapes Go.ChangeAt Go.RowKit Go.Shelf Em En
set_option linter.unusedVariables false
set_option linter.unusedSimpArgs false
set_option maxRecDepth 100000
set_option maxHeartbeats 1600000
def lfs (n:Nat):ByteArray:=⟨(List.replicate n 10).toArray⟩
theorem lfs_size (n:Nat):(lfs n).size=n:=by show (List.replicate n (10:UInt8)).toArray.size=n;simp
theorem lfs_list (n:Nat):(lfs n).data.toList=List.replicate n 10:=rfl
theorem lfs_ext {a b:ByteArray} (h:a.data.toList=b.data.toList):a=b:=by
 cases a;cases b
 simpa using h
theorem run_lfs (n:Nat) (hn:n≤10000) (w:World) (hL:LibV w):Calls Tryz.prog 11 #[.agg #[.int .i64 60,.int .u64 500],.string (lfs n)] w fun e w'=>e=.returned (.string ⟨#[]⟩)∧Below w.heap.size w w':=by
 refine run_any 60 500 (by decide) (by decide) (by decide) (by decide) (lfs n) (by rw[lfs_size];omega) n (fun k=>lfs (n - k)) (fun _=>⟨#[]⟩) (fun _=>0) rfl (fun k hk=>?_) ?_ (fun _=>En.new 60 500) (fun _=>[]) rfl rfl (fun k hk x hx=>?_) w hL
 · obtain⟨m,hm⟩:∃ m,n - k=m+1:=⟨n - k - 1,by omega⟩
   have hm2:n - (k+1)=m:=by omega
   simp only[hm,hm2];refine⟨?_,by rw[lfs_size];omega,by rw[lfs_size];omega,?_,?_,by rw[lfs_size,lfs_size];omega⟩
   · rw[lfs_list,List.replicate_succ];simp[Lib.indexByte]
   · apply lfs_ext;simp[lfs_list]
   · apply lfs_ext;rw[lfs_size];simp[lfs_list]
 · show Lib.indexByte (lfs (n - n)).data.toList 10=-1
   rw[Nat.sub_self];decide +kernel
 · refine .inl ⟨?_,rfl,rfl⟩
   rw[hx]
   split
   · rfl
   · rename_i h
     show lfs (n - n)=_;rw[Nat.sub_self];rfl
theorem infoU8:(Tryz.prog.info? 5).map (fun i=>(i.zero,i.size,i.bytes))=some (some (.int .u8 0),1,1):=by kernel_rfl
theorem make_u8 (n:Nat) (h:n≤100000) (w:World):(Instr.makeSlice 42 (.int .i64 (n:Int)) (.int .i64 (n:Int))).run Tryz.prog w=.ok (.slice (some ⟨w.heap.size,0,none⟩) n n) (w.alloc (.cells (madeCells #[.int .u8 0] n) 5)):=by
 obtain⟨i,hi,hz0,hz1,hz2⟩:=info_parts infoU8;have:=run_make (P:=Tryz.prog) w 42 5 i _ Tryz.underlying42 hi hz0 .i64 .i64 n n (by omega) (Int.le_refl _) (by rw[hz2];omega) (by omega);rw[hz1] at this
 simpa [Value.cells] using this
def tens (k m:Nat):List Value:=List.replicate k (.int .u8 10)++List.replicate (m - k) (.int .u8 0)
theorem tens_made (m:Nat):madeCells #[.int .u8 0] m=(tens 0 m).toArray:=by
 apply Array.toList_inj.1;rw[toList_madeCells_one];simp[tens]
theorem tens_at {k m:Nat} (h:k<m):(tens k m).toArray[k]? =some (.int .u8 0):=by
 unfold tens;obtain⟨r,hr⟩:∃ r,m - k=r+1:=⟨m - k - 1,by omega⟩
 simp[hr]
theorem tens_set {k m:Nat} (h:k<m):(tens k m).toArray.setIfInBounds k (.int .u8 10)=(tens (k+1) m).toArray:=by
 unfold tens;obtain⟨r,hr⟩:∃ r,m - k=r+1:=⟨m - k - 1,by omega⟩
 have h2:m - (k+1)=r:=by omega
 rw[hr,h2,List.replicate_succ (n:=r)];have e2:List.replicate (k+1) (Value.int .u8 10)=List.replicate k (Value.int .u8 10)++[Value.int .u8 10]:=List.replicate_succ';rw[e2,List.append_assoc,List.setIfInBounds_toArray]
 congr 1
 have e3:∀ (a b:List Value) (x y:Value),(a++x::b).set a.length y=a++y::b:=by
  intro a
  induction a with
  |nil=>intro b x y;rfl
  |cons z a ih=>intro b x y;simp
 have:=e3 (List.replicate k (Value.int .u8 10)) (List.replicate r (.int .u8 0)) (.int .u8 0) (.int .u8 10);rw[List.length_replicate] at this;exact this
theorem tens_conv (m g:Nat) (W:World) (h:W.heap[g]? =some (.cells (tens m m).toArray 5)):(convert 42 9 (.slice (some ⟨g,0,none⟩) m m)).run Tryz.prog W=.ok (.string (lfs m)) W:=by
 have := run_convert_bytes_back (P := Tryz.prog) W 42 9 5 ⟨g, 0, none⟩ m (List.replicate m 10) Tryz.underlying42 Tryz.underlying5 Tryz.underlying9 (fun j hj => by
   rw[List.length_replicate] at hj
   have e:(⟨g,0,none⟩:Addr).add j=⟨g,j,none⟩:=by simp[Addr.add];try (intro h;exact h.symm)
   rw[e,cell_of_row _ _ _ _ _ _ h]
   unfold tens
   simp[List.getElem?_replicate,hj])
 rw[List.length_replicate] at this;exact this
theorem box_cells {w w':World} {v0 v1:Value} {T:TypeId} (hb:Below (w.alloc (.cells #[v0,v1] T)).heap.size (w.alloc (.cells #[v0,v1] T)) w'):w'.cell? ⟨w.heap.size,0,none⟩=some v0∧w'.cell? ⟨w.heap.size,1,none⟩=some v1:=by
 have h1:w'.heap[w.heap.size]? =some (.cells #[v0,v1] T):=(hb.block _ (by simp)).trans (heap_alloc_new _ _);exact⟨by rw[cell_of_row _ _ _ _ _ _ h1];rfl,by rw[cell_of_row _ _ _ _ _ _ h1];rfl⟩
theorem bounds_any (sl li n0:Int) (w:World) (hL:LibV w) (hz:0≤li):Calls Tryz.prog 5 #[.agg #[.int .i64 sl,.int .u64 li],.int .i64 n0] w fun e w'=>e=.returned (.bool true)∧Below w.heap.size w w':=by
 obtain⟨m,hm,hmm⟩:∃ m:Nat,m<16384∧bits .and .i64 n0 16383=(m:Int):=by
  have e:bits .and .i64 n0 16383=n0 % 16384:=Bt.and_mask_i64 n0 14 (by omega);rw[e];exact⟨(n0 % 16384).toNat,by omega,by omega⟩
 have HB:=Lib.hid (((Below.refl _ w).alloc (Nat.le_refl _) (.cells #[.int .i64 sl,.int .u64 li] 35)));have HL:=Lib.hid (fun (w':World) (h:Below w.heap.size w w')=>hL.below h);have HA:=Lib.hid (fun (w':World) (h:Below w.heap.size w w')=>awake28 w' (hL.below h));have HC:=Lib.hid conf_any;have HF:=Lib.hid (fun (k:Nat) (hk:k≤10000) (w':World) (h:Below w.heap.size w w')=>run_lfs k hk w' (hL.below h));have HG:=Lib.hid (fun (s:ByteArray) (hs:(10000:Int)<(s.size:Int)) (w':World)=>run_long 60 500 (by decide) (by decide) (by decide) (by decide) s hs w');have hmk:=fun w=>make_u8 m (by omega) w
 clear hL
 by_cases hg:1≤sl∧sl≤256∧1≤li∧li≤1099511627776
 · obtain⟨n,rfl⟩:∃ n:Nat,sl=(n:Int):=⟨sl.toNat,by omega⟩
   obtain⟨l,rfl⟩:∃ l:Nat,li=(l:Int):=⟨li.toNat,by omega⟩
   have H1:=Lib.hid (fun w=>cnew_ts n l (by omega) (by omega) (by omega) (by omega) w);have H2:=Lib.hid (fun w=>rnew_yes (n:Int) (l:Int) (by omega) (by omega) (by omega) (by omega) w);have H3:=Lib.hid (fun (w':World) (h:Below w.heap.size w w')=>run_used n l (by omega) (by omega) (by omega) (by omega) w' (HL.out w' h));clear hg hz;generalize (n:Int)=sl at*;generalize (l:Int)=li at*;go_enter Tryz.func5,Tryz.ntmps5
   go_wp2_with (first
     |(go_at_call 9;refine (H1.out _).mono ?_;rintro e w1 ⟨b,kc,kp,rfl,q⟩;have hb:=ets_low q;clear q;obtain⟨ca,cb⟩:=box_cells hb;have C1:=Lib.hid hb;clear hb)
     |(go_at_call 10;refine (H2.out _).mono ?_;rintro e w2 ⟨⟨ra,rfl⟩,hb⟩;have hc:=C1.out.trans (hb.mono C1.out.size);obtain⟨cc,cd⟩:=box_cells hc;have B2:=Lib.hid (HB.out.trans (hc.mono (by simp)));clear hb hc)
     |(go_at_call 11;refine (H3.out _ B2.out).mono ?_;rintro e w3 ⟨rfl,hb⟩;have B3:=Lib.hid (B2.out.trans (hb.mono B2.out.size));clear hb))
   have hrow:(w3.alloc (.cells (madeCells #[.int .u8 0] m) 5)).heap[w3.heap.size]? =some (.cells (tens 0 m).toArray 5):=by
    rw[heap_alloc_new,tens_made]
   have hb4:=B3.out.alloc B3.out.size (.cells (madeCells #[.int .u8 0] m) 5);have hge:=B3.out.size;generalize w3.alloc (.cells (madeCells #[.int .u8 0] m) 5)=w4 at*;generalize w3.heap.size=g at*;have HI:=Lib.hid (And.intro hrow (And.intro hb4 hge));clear hrow hb4 hge hmk hmm H1 H2 H3 HB C1 B2 B3 ca cb cc cd
   go_loopw [10,58] (fun _ i wr=>∃ k:Nat,i=.int .i64 (k:Int)∧k≤m∧wr.heap[g]? =some (.cells (tens k m).toArray 5)∧Below w.heap.size w wr) (fun _ i _=>msr m i)
   case atStart=>exact⟨0,rfl,Nat.zero_le _,HI.out.1,HI.out.2.1⟩
   case round=>
    obtain⟨k,rfl,hk,hr,hb⟩:=hrel
    by_cases hkm:k<m
    · have c1:((k:Int)<(m:Int))=True:=by simp;omega
      have c2:decide ((k:Int)<(m:Int))=true:=by simp;omega
      have c3:(0:Int)≤(k:Int):=by omega
      have c4:wr.cell? ⟨g,k,none⟩=some (.int .u8 0):=by
       rw[cell_of_row _ _ _ _ _ _ hr];exact tens_at hkm
      have c5:=frozen_of_row _ _ k _ _ hr;have HR:=Lib.hid (And.intro hr hb);clear hr hb;go_wp2
      case roundEnd=>
       refine⟨⟨k+1,rfl,hkm,?_,HR.out.2.setCell (p:=⟨g,k,none⟩) HI.out.2.2 _⟩,by unfold msr;show m - ((k:Int)+1).toNat<m - (k:Int).toNat;omega⟩;rw[Em.heap_setCell_same HR.out.1,tens_set hkm]
    · obtain rfl:k=m:=by omega
      have HR:=Lib.hid (And.intro hr hb);have v1:=tens_conv k g wr hr;have v2:∀ w',Below wr.heap.size wr w'→(convert 42 9 (.slice (some ⟨g,0,none⟩) k k)).run Tryz.prog w'=.ok (.string (lfs k)) w':=fun w' h=>tens_conv k g w' ((h.block _ (Array.getElem?_eq_some_iff.1 hr).1).trans hr)
      have HV:=Lib.hid v2;clear hr hb v2 hk
      by_cases hm1:10000<k
      · have d1:((10000:Int)<(k:Int))=True:=by simp;omega
        have d2:decide ((10000:Int)<(k:Int))=true:=by simp;omega
        have HX:=Lib.hid (fun w'=>HG.out (lfs k) (by rw[lfs_size];omega) w');clear hm1 hkm;have v3:=HV.out wr.drew (Below.refl _ _).drew;have D0:=Lib.hid ((Below.refl wr.heap.size wr).drew);have R0:=Lib.hid HR.out.2;clear HR HI;go_wp2_with fail
        go_region_law (first
          |(go_simp;go_at_call 12;refine (HC.out _).mono ?_;rintro e w5 ⟨rfl,hb⟩;have hb2:=D0.out.trans (hb.mono (D0.out.size));have v4:=HV.out w5 hb2;have R5:=Lib.hid (R0.out.trans (hb2.mono R0.out.size));clear hb hb2)
          |(go_simp;go_at_call 11;refine (HX.out _).mono ?_;rintro e w6 ⟨rfl,hb⟩;have R6:=Lib.hid (R5.out.trans (hb.mono R5.out.size));clear hb))
        all_goals (go_wp2_with (go_at_call 7;refine (HA.out _ R6.out).mono ?_;rintro e w7 ⟨rfl,hb⟩;have R7:=Lib.hid (R6.out.trans (hb.mono R6.out.size));clear hb))
        all_goals (go_ret;exact⟨rfl,R7.out⟩)
      · have d1:((10000:Int)<(k:Int))=False:=by simp;omega
        have d2:decide ((10000:Int)<(k:Int))=false:=by simp;omega
        have HX:=Lib.hid (fun w' h=>HF.out k (by omega) w' h);clear hm1 hkm;have v3:=HV.out wr.drew (Below.refl _ _).drew;have D0:=Lib.hid ((Below.refl wr.heap.size wr).drew);have R0:=Lib.hid HR.out.2;clear HR HI;go_wp2_with fail
        go_region_law (first
          |(go_simp;go_at_call 12;refine (HC.out _).mono ?_;rintro e w5 ⟨rfl,hb⟩;have hb2:=D0.out.trans (hb.mono (D0.out.size));have v4:=HV.out w5 hb2;have R5:=Lib.hid (R0.out.trans (hb2.mono R0.out.size));clear hb hb2)
          |(go_simp;go_at_call 11;refine (HX.out _ R5.out).mono ?_;rintro e w6 ⟨rfl,hb⟩;have R6:=Lib.hid (R5.out.trans (hb.mono R5.out.size));clear hb))
        all_goals (go_wp2_with (go_at_call 7;refine (HA.out _ R6.out).mono ?_;rintro e w7 ⟨rfl,hb⟩;have R7:=Lib.hid (R6.out.trans (hb.mono R6.out.size));clear hb))
        all_goals (go_ret;exact⟨rfl,R7.out⟩)
 · have H1:=Lib.hid (fun w=>cnew_no sl li hg w)
   have H2:=Lib.hid (fun w=>rnew_no sl li hg w);have H3:=Lib.hid (fun (w':World) (h:Below w.heap.size w w')=>run_no sl li hg ⟨#[117,115,101,100]⟩ w');clear hg hz;go_enter Tryz.func5,Tryz.ntmps5
   go_wp2_with (first
     |(go_at_call 9;refine (H1.out _).mono ?_;rintro e w1 ⟨rfl,hb⟩;obtain⟨ca,cb⟩:=box_cells hb;have C1:=Lib.hid hb;clear hb)
     |(go_at_call 10;refine (H2.out _).mono ?_;rintro e w2 ⟨rfl,hb⟩;have hc:=C1.out.trans (hb.mono C1.out.size);obtain⟨cc,cd⟩:=box_cells hc;have B2:=Lib.hid (HB.out.trans (hc.mono (by simp)));clear hb hc)
     |(go_at_call 11;refine (H3.out _ B2.out).mono ?_;rintro e w3 ⟨rfl,hb⟩;have B3:=Lib.hid (B2.out.trans (hb.mono B2.out.size));clear hb))
   have hrow:(w3.alloc (.cells (madeCells #[.int .u8 0] m) 5)).heap[w3.heap.size]? =some (.cells (tens 0 m).toArray 5):=by
    rw[heap_alloc_new,tens_made]
   have hb4:=B3.out.alloc B3.out.size (.cells (madeCells #[.int .u8 0] m) 5);have hge:=B3.out.size;generalize w3.alloc (.cells (madeCells #[.int .u8 0] m) 5)=w4 at*;generalize w3.heap.size=g at*;have HI:=Lib.hid (And.intro hrow (And.intro hb4 hge));clear hrow hb4 hge hmk hmm H1 H2 H3 HB C1 B2 B3 ca cb cc cd
   go_loopw [10,58] (fun _ i wr=>∃ k:Nat,i=.int .i64 (k:Int)∧k≤m∧wr.heap[g]? =some (.cells (tens k m).toArray 5)∧Below w.heap.size w wr) (fun _ i _=>msr m i)
   case atStart=>exact⟨0,rfl,Nat.zero_le _,HI.out.1,HI.out.2.1⟩
   case round=>
    obtain⟨k,rfl,hk,hr,hb⟩:=hrel
    by_cases hkm:k<m
    · have c1:((k:Int)<(m:Int))=True:=by simp;omega
      have c2:decide ((k:Int)<(m:Int))=true:=by simp;omega
      have c3:(0:Int)≤(k:Int):=by omega
      have c4:wr.cell? ⟨g,k,none⟩=some (.int .u8 0):=by
       rw[cell_of_row _ _ _ _ _ _ hr];exact tens_at hkm
      have c5:=frozen_of_row _ _ k _ _ hr;have HR:=Lib.hid (And.intro hr hb);clear hr hb;go_wp2
      case roundEnd=>
       refine⟨⟨k+1,rfl,hkm,?_,HR.out.2.setCell (p:=⟨g,k,none⟩) HI.out.2.2 _⟩,by unfold msr;show m - ((k:Int)+1).toNat<m - (k:Int).toNat;omega⟩;rw[Em.heap_setCell_same HR.out.1,tens_set hkm]
    · obtain rfl:k=m:=by omega
      have HR:=Lib.hid (And.intro hr hb);have v1:=tens_conv k g wr hr;have v2:∀ w',Below wr.heap.size wr w'→(convert 42 9 (.slice (some ⟨g,0,none⟩) k k)).run Tryz.prog w'=.ok (.string (lfs k)) w':=fun w' h=>tens_conv k g w' ((h.block _ (Array.getElem?_eq_some_iff.1 hr).1).trans hr)
      have HV:=Lib.hid v2;clear hr hb v2 hk
      by_cases hm1:10000<k
      · have d1:((10000:Int)<(k:Int))=True:=by simp;omega
        have d2:decide ((10000:Int)<(k:Int))=true:=by simp;omega
        have HX:=Lib.hid (fun w'=>HG.out (lfs k) (by rw[lfs_size];omega) w');clear hm1 hkm;have v3:=HV.out wr.drew (Below.refl _ _).drew;have D0:=Lib.hid ((Below.refl wr.heap.size wr).drew);have R0:=Lib.hid HR.out.2;clear HR HI;go_wp2_with fail
        go_region_law (first
          |(go_simp;go_at_call 12;refine (HC.out _).mono ?_;rintro e w5 ⟨rfl,hb⟩;have hb2:=D0.out.trans (hb.mono (D0.out.size));have v4:=HV.out w5 hb2;have R5:=Lib.hid (R0.out.trans (hb2.mono R0.out.size));clear hb hb2)
          |(go_simp;go_at_call 11;refine (HX.out _).mono ?_;rintro e w6 ⟨rfl,hb⟩;have R6:=Lib.hid (R5.out.trans (hb.mono R5.out.size));clear hb))
        all_goals (go_wp2_with (go_at_call 7;refine (HA.out _ R6.out).mono ?_;rintro e w7 ⟨rfl,hb⟩;have R7:=Lib.hid (R6.out.trans (hb.mono R6.out.size));clear hb))
        all_goals (go_ret;exact⟨rfl,R7.out⟩)
      · have d1:((10000:Int)<(k:Int))=False:=by simp;omega
        have d2:decide ((10000:Int)<(k:Int))=false:=by simp;omega
        have HX:=Lib.hid (fun w' h=>HF.out k (by omega) w' h);clear hm1 hkm;have v3:=HV.out wr.drew (Below.refl _ _).drew;have D0:=Lib.hid ((Below.refl wr.heap.size wr).drew);have R0:=Lib.hid HR.out.2;clear HR HI;go_wp2_with fail
        go_region_law (first
          |(go_simp;go_at_call 12;refine (HC.out _).mono ?_;rintro e w5 ⟨rfl,hb⟩;have hb2:=D0.out.trans (hb.mono (D0.out.size));have v4:=HV.out w5 hb2;have R5:=Lib.hid (R0.out.trans (hb2.mono R0.out.size));clear hb hb2)
          |(go_simp;go_at_call 11;refine (HX.out _ R5.out).mono ?_;rintro e w6 ⟨rfl,hb⟩;have R6:=Lib.hid (R5.out.trans (hb.mono R5.out.size));clear hb))
        all_goals (go_wp2_with (go_at_call 7;refine (HA.out _ R6.out).mono ?_;rintro e w7 ⟨rfl,hb⟩;have R7:=Lib.hid (R6.out.trans (hb.mono R6.out.size));clear hb))
        all_goals (go_ret;exact⟨rfl,R7.out⟩)
end Go.Proofs.YtiimlopcifljeaaGreatDoor.Cn
