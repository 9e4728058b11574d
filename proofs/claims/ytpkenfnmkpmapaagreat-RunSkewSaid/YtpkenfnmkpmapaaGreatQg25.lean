import Derived.Test.YtpkenfnmkpmapaaGreatQg24
namespace Go.Proofs.YtpkenfnmkpmapaaGreat.Em
open Go.ChangeShapes Go.WideShapes Go.ChangeAt Go.RowKit En
set_option linter.unusedVariables false
set_option linter.unusedSimpArgs false
set_option maxRecDepth 100000
set_option maxHeartbeats 1600000
def lowN (ps:List (Nat×Nat)) (key:Nat):Nat:=(ps.takeWhile fun p=>decide (p.1<key)).length
def hasAt (ps:List (Nat×Nat)) (k key:Nat):Bool:=match ps[k]? with|some p=>p.1==key|none=>false
def setP (ps:List (Nat×Nat)) (key v:Nat) (gone:Bool):List (Nat×Nat):=
 ps.take (lowN ps key)++(if gone then [] else [(key,v)])++ps.drop (if hasAt ps (lowN ps key) key then lowN ps key+1 else lowN ps key)
theorem lowN_le (ps:List (Nat×Nat)) (key:Nat):lowN ps key≤ps.length:=by
 unfold lowN;exact (List.takeWhile_sublist _).length_le
theorem lowN_at {ps:List (Nat×Nat)} {key k:Nat} (hk:k≤ps.length) (h1:∀ j p,j<k→ps[j]? =some p→p.1<key) (h2:∀ p,ps[k]? =some p→¬ p.1<key):lowN ps key=k:=by
 unfold lowN
 induction ps generalizing k with
 |nil=>simp at hk;simp[hk]
 |cons a ps ih=>
  cases k with
  |zero=>
   have:=h2 a rfl;simp[this]
  |succ k=>
   have h0:=h1 0 a (by omega) rfl;rw[List.takeWhile_cons_of_pos (by simpa using h0),List.length_cons,ih (k:=k) (by simpa using hk) (fun j p hj hp=>h1 (j+1) p (by omega) (by simpa using hp)) (fun p hp=>h2 p (by simpa using hp))]
def PR (w:World) (v:Value) (ps:List (Nat×Nat)):Prop:=Ow.Row w 0 2 v (pairCs ps)
theorem PR.form {w:World} {v:Value} {ps:List (Nat×Nat)} (h:PR w v ps):∃ a c,v=.slice a ps.length c∧ps.length≤c∧c≤maxLen∧(ps.length=0∨∃ g off,a=some ⟨g,off,none⟩∧g<w.heap.size∧∀ j,j<ps.length*2→w.cell? ⟨g,off+j,none⟩=(pairCs ps)[j]?):=by
 obtain⟨a,n,c,rfl,h1,h2,h3,h4⟩:=h;rw[pairCs_len] at h1;obtain rfl:n=ps.length:=by omega
 refine⟨a,c,rfl,h2,h3,?_⟩
 rcases h4 with h4|⟨g,off,e,_,hg,hc⟩
 · exact .inl h4
 · exact .inr ⟨g,off,e,hg,hc⟩
theorem PR.below {w w':World} {v:Value} {ps:List (Nat×Nat)} (h:PR w v ps) (hb:Below w.heap.size w w'):PR w' v ps:=Ow.Row.below h hb
theorem pairCs_take (ps:List (Nat×Nat)) (k:Nat):pairCs (ps.take k)=(pairCs ps).take (k*2):=by
 induction ps generalizing k with
 |nil=>simp[pairCs,two]
 |cons a ps ih=>
  cases k with
  |zero=>rfl
  |succ k=>
   have e:∀ l,pairCs (a::l)=zi (a.1:Int)::zi (a.2:Int)::pairCs l:=fun _=>rfl
   rw[List.take_succ_cons,e,e,show (k+1)*2=k*2+1+1 by omega,List.take_succ_cons,List.take_succ_cons,ih]
theorem pairCs_drop (ps:List (Nat×Nat)) (k:Nat):pairCs (ps.drop k)=(pairCs ps).drop (k*2):=by
 induction ps generalizing k with
 |nil=>simp[pairCs,two]
 |cons a ps ih=>
  cases k with
  |zero=>rfl
  |succ k=>
   have e:∀ l,pairCs (a::l)=zi (a.1:Int)::zi (a.2:Int)::pairCs l:=fun _=>rfl
   rw[List.drop_succ_cons,e,show (k+1)*2=k*2+1+1 by omega,List.drop_succ_cons,List.drop_succ_cons,ih]
theorem PR.take {w:World} {a:Option Addr} {c:Nat} {ps:List (Nat×Nat)} {n:Nat} (h:PR w (.slice a n c) ps) (k:Nat) (hk:k≤n):Ow.Row w 0 2 (.slice a k c) (pairCs (ps.take k)):=by
 obtain⟨a',c',e,h2,h3,h4⟩:=h.form;simp only[Value.slice.injEq] at e;obtain⟨rfl,rfl,rfl⟩:=e;refine⟨a,k,c,rfl,by rw[pairCs_len,List.length_take];omega,by omega,h3,?_⟩
 rcases h4 with h4|⟨g,off,e,hg,hc⟩
 · exact .inl (by omega)
 · refine .inr ⟨g,off,e,Nat.zero_le _,hg,fun j hj=>?_⟩
   rw[hc j (by omega),pairCs_take,List.getElem?_take];simp[hj]
theorem PR.drop {w:World} {a:Option Addr} {c:Nat} {ps:List (Nat×Nat)} {n:Nat} (h:PR w (.slice a n c) ps) (k:Nat) (hk:k≤n):Ow.Row w 0 2 (.slice (if c=k then a else a.map fun x=>x.add (k*2)) (n - k) (c - k)) (pairCs (ps.drop k)):=by
 obtain⟨a',c',e,h2,h3,h4⟩:=h.form;simp only[Value.slice.injEq] at e;obtain⟨rfl,rfl,rfl⟩:=e;refine⟨_,_,_,rfl,by rw[pairCs_len,List.length_drop],by omega,by omega,?_⟩
 rcases h4 with h4|⟨g,off,e,hg,hc⟩
 · exact .inl (by omega)
 · by_cases hck:c=k
   · exact .inl (by omega)
   · refine .inr ⟨g,off+k*2,?_,Nat.zero_le _,hg,fun j hj=>?_⟩
     · rw[if_neg hck,e]
       simp only[Option.map_some,Option.some.injEq,Addr.add]
       split
       · rename_i h0
         simp[h0]
       · rfl
     · rw[Nat.add_assoc,hc (k*2+j) (by omega),pairCs_drop,List.getElem?_drop]
theorem run_low (a:Option Addr) (n c k:Nat) (hk:k≤c) (w:World):(Instr.slice 47 (.slice a n c) none (some (zi (k:Int))) none).run Tryz.prog w=.ok (.slice a k c) w:=by
 go_simp
theorem run_high (a:Option Addr) (n c k:Nat) (hk:k≤n) (hc:n≤c) (w:World):(Instr.slice 47 (.slice a n c) (some (zi (k:Int))) none none).run Tryz.prog w=.ok (.slice (if c=k then a else a.map fun x=>x.add (k*2)) (n - k) (c - k)) w:=by
 go_simp
theorem Row.low {w:World} {base size:Nat} {v:Value} {xs:List Value} (h:Ow.Row w base size v xs):Ow.Row w 0 size v xs:=by
 obtain⟨a,n,c,e,h1,h2,h3,h4⟩:=h;refine⟨a,n,c,e,h1,h2,h3,?_⟩
 rcases h4 with h4|⟨g,off,e1,_,e3,e4⟩
 · exact .inl h4
 · exact .inr ⟨g,off,e1,Nat.zero_le _,e3,e4⟩
theorem pairCs_app (a b:List (Nat×Nat)):pairCs (a++b)=pairCs a++pairCs b:=by simp[pairCs,two]
theorem Row.eq {w:World} {base size:Nat} {v v':Value} {xs:List Value} (h:Ow.Row w base size v xs) (e:v=v'):Ow.Row w base size v' xs:=e ▸ h
def findP (ps:List (Nat×Nat)) (key:Nat):Nat×Bool:=match ps.find? (fun p=>p.1==key) with|some p=>(p.2,true)|none=>(0,false)
theorem find_at {α:Type} {f:α→Bool} {ps:List α} {k:Nat} {p:α} (h1:(ps.take k).find? f=none) (h2:ps[k]? =some p) (h3:f p=true):ps.find? f=some p:=by
 obtain⟨hlt,he⟩:=List.getElem?_eq_some_iff.1 h2;have e:ps=ps.take k++(p::ps.drop (k+1)):=by
  have:=List.drop_eq_getElem_cons hlt;rw[he] at this;rw[←this,List.take_append_drop]
 rw[e,List.find?_append,h1];simp[h3]
theorem find_next {α:Type} {f:α→Bool} {ps:List α} {k:Nat} {p:α} (h1:(ps.take k).find? f=none) (h2:ps[k]? =some p) (h3:f p=false):(ps.take (k+1)).find? f=none:=by
 rw[List.take_add_one,h2,List.find?_append,h1];simp[h3]
theorem findD_any (w:World) (v:Value) (ps:List (Nat×Nat)) (key:Nat) (hR:PR w v ps) (hl:ps.length≤1000000):Calls Tryz.prog 80 #[v,zi (key:Int)] w fun e w'=>e=.returned (.tuple #[zi ((findP ps key).1:Int),.bool (findP ps key).2])∧w=w':=by
 obtain⟨a,c,rfl,h2,h3,h4⟩:=hR.form;obtain⟨n,hn⟩:∃ n,n=ps.length:=⟨_,rfl⟩
 rw[←hn] at h2 h4 hl ⊢;have H0:=zH (zA h4 (zA hl hn));clear hR h2 h3 h4 hl hn;go_enter Tryz.func80,Tryz.ntmps80;go_wp2
 go_loopw [6] (fun i wr=>w=wr∧∃ k:Nat,i=zi (k:Int)∧k≤n∧(ps.take k).find? (fun p=>p.1==key)=none) (fun i _=>n - (intOf i).toNat)
 case atStart=>exact⟨rfl,0,rfl,Nat.zero_le _,rfl⟩
 case round=>
  obtain⟨rfl,k,rfl,hk,hf⟩:=hrel;obtain⟨h4,hl,hn⟩:=H0.out
  by_cases hlt:k<n
  · obtain⟨p,hp⟩:∃ p,ps[k]? =some p:=⟨_,List.getElem?_eq_getElem (by omega)⟩
    obtain⟨g,off,rfl,hg,hc⟩:=h4.resolve_left (by omega);have e1:=pairCs_get ps k p hp;have c0:w.cell? ⟨g,off+k*2,none⟩=some (zi (p.1:Int)):=by rw[hc _ (by omega)];exact e1.1
    have c1:w.cell? ⟨g,off+k*2+1,none⟩=some (zi (p.2:Int)):=by rw[Nat.add_assoc,hc _ (by omega)];exact e1.2
    have b0:((k:Int)<(n:Int))=True:=by simp;omega
    have b1:(k:Int)<(n:Int):=by omega
    have b2:(0:Int)≤(k:Int):=by omega
    have n3:IntKind.i64.wrap ((k:Int)+1)=(k:Int)+1:=by rw[IntKind.wrap_i64];omega
    by_cases he:p.1=key
    · have d0:((p.1:Int)=(key:Int))=True:=by simp;omega
      have d1:decide ((p.1:Int)=(key:Int))=true:=by simp;omega
      have d2:(p.1=key)=True:=by simp;omega
      have d3:((p.1:Int)==(key:Int))=true:=by simp;omega
      have HF:=zH (show findP ps key=(p.2,true) by unfold findP;rw[find_at hf hp (by simpa using he)]);clear he hf hp e1 hc h4 hl hn hk hlt;go_wp2
      go_ret2
      rw[HF.out];exact⟨rfl,rfl⟩
    · have d0:((p.1:Int)=(key:Int))=False:=by simp;omega
      have d1:decide ((p.1:Int)=(key:Int))=false:=by simp;omega
      have d2:(p.1=key)=False:=by simp;omega
      have d3:((p.1:Int)==(key:Int))=false:=by simp;omega
      have HF:=zH (zA (find_next hf hp (by simpa using he)) hlt);clear he hf hp e1 hc h4 hl hn hk hlt;go_wp2
      go_roundw
      case rel=>exact⟨trivial,k+1,rfl,HF.out.2,HF.out.1⟩
      case measure=>have:=HF.out.2;simp[intOf];omega
  · have hkn:k=n:=by omega
    subst hkn;rw[hn,List.take_length] at hf;have HF:=zH (show findP ps key=(0,false) by unfold findP;rw[hf]);have b0:((k:Int)<(k:Int))=False:=by simp
    clear hf h4 hl hn hk hlt;go_wp2
    go_ret2
    rw[HF.out];exact⟨rfl,rfl⟩
theorem setD_any (w:World) (lv:Value) (ps:List (Nat×Nat)) (key v:Nat) (gone:Bool) (hR:PR w lv ps) (hl:ps.length≤1000000):Calls Tryz.prog 126 #[lv,zi (key:Int),zi (v:Int),.bool gone] w fun e w'=>∃ av n' cv,e=.returned (.slice av n' cv)∧n'=(setP ps key v gone).length∧Ow.Row w' w.heap.size 2 (.slice av n' cv) (pairCs (setP ps key v gone))∧Below w.heap.size w w':=by
 obtain⟨ip,hip,hp0,hp1,hp2⟩:=info_parts infoPr;have HP0:=zH hR;obtain⟨a,c,rfl,h2,h3,h4⟩:=hR.form;obtain⟨n,hn⟩:∃ n,n=ps.length:=⟨_,rfl⟩
 rw[←hn] at h2 h4 hl HP0 ⊢;have HP:=HP0;have hc64:c≤9223372036854775807:=by unfold maxLen at h3;omega
 have H0:=zH (zA h4 (zA hl hn));have HE0:=zH (show (w.alloc (.cells #[] 134)).ownsRow w.heap.size 134 2 (.slice (some ⟨w.heap.size,0,none⟩) 0 0) 0 [] from emptyRow (Nat.le_refl _));clear hR h3 h4 hl hn HP0;go_enter Tryz.func126,Tryz.ntmps126;go_wp2
 go_loopw [9] (fun i wr=>w=wr∧∃ k:Nat,i=zi (k:Int)∧k≤n∧∀ j p,j<k→ps[j]? =some p→p.1<key) (fun i _=>n - (intOf i).toNat)
 case atStart=>exact⟨rfl,0,rfl,Nat.zero_le _,fun j p hj=>absurd hj (by omega)⟩
 case round=>
  obtain⟨rfl,k,rfl,hk,hlow⟩:=hrel;obtain⟨h4,hl,hn⟩:=H0.out;have b2:(0:Int)≤(k:Int):=by omega
  have n3:IntKind.i64.wrap ((k:Int)+1)=(k:Int)+1:=by rw[IntKind.wrap_i64];omega
  have T0:=zH (zA HE0.out (zA ((HP.out.below ((Below.refl _ _).alloc (Nat.le_refl _) (.cells #[] 134))).take k hk) (zA (show (pairCs (ps.take k)).length=k*2 by rw[pairCs_len,List.length_take];omega) (fun (w9:World) (q:(w.alloc (.cells #[] 134)).grownBy w9 (some w.heap.size))=>(show Below w.heap.size w w9 from (((Below.refl w.heap.size w).alloc (Nat.le_refl _) (.cells #[] 134)).grown q (by simp) (fun g hg=>by simp at hg;omega)))))))
  by_cases hlt:k<n
  · obtain⟨p,hp⟩:∃ p,ps[k]? =some p:=⟨_,List.getElem?_eq_getElem (by omega)⟩
    obtain⟨g,off,rfl,hg,hc⟩:=h4.resolve_left (by omega);have e1:=pairCs_get ps k p hp;have c0:w.cell? ⟨g,off+k*2,none⟩=some (zi (p.1:Int)):=by rw[hc _ (by omega)];exact e1.1
    have b0:((k:Int)<(n:Int))=True:=by simp;omega
    have b1:(k:Int)<(n:Int):=by omega
    by_cases hpk:p.1<key
    · have d0:((p.1:Int)<(key:Int))=True:=by simp;omega
      have d1:decide ((p.1:Int)<(key:Int))=true:=by simp;omega
      have d2:(p.1<key)=True:=by simp;omega
      have HF := zH (zA hlt (show ∀ j q, j < k + 1 → ps[j]? = some q → q.1 < key from fun j q hj hq => by
        by_cases e:j=k
        · subst e;rw[hp] at hq;obtain rfl:=Option.some.inj hq;exact hpk
        · exact hlow j q (by omega) hq))
      clear hpk hp e1 hc h4 hl hn hk hlt hlow T0 HE0;go_wp2
      go_roundw
      case rel=>exact⟨trivial,k+1,rfl,HF.out.1,HF.out.2⟩
      case measure=>have:=HF.out.1;simp[intOf];omega
    · have d0:((p.1:Int)<(key:Int))=False:=by simp;omega
      have d1:decide ((p.1:Int)<(key:Int))=false:=by simp;omega
      have d2:(p.1<key)=False:=by simp;omega
      have hk0:lowN ps key=k:=lowN_at (by omega) hlow (fun q hq=>by rw[hp] at hq;obtain rfl:=Option.some.inj hq;exact hpk)
      by_cases he:p.1=key
      · have f0:((p.1:Int)=(key:Int))=True:=by simp;omega
        have f1:decide ((p.1:Int)=(key:Int))=true:=by simp;omega
        have f2:(p.1=key)=True:=by simp;omega
        have f3:((p.1:Int)==(key:Int))=true:=by simp;omega
        have hhas:hasAt ps k key=true:=by unfold hasAt;rw[hp];simpa using he
        cases gone with
        |true=>
         have HN:=zH (zA (show n≤1000000 from H0.out.2.1) (zA (show k+1≤n by omega) (zA (show ps.length=n from H0.out.2.2.symm) (zA hk0 hhas))));clear hk0 hhas hpk he hp e1 hc h4 hl hn hk hlt hlow HE0
         by_cases hck:c=k+1
         · have hck2:=hck
           subst hck2;have gck:(k+1=k+1)=True:=by simp
           have g1:k+1 - (k+1)=0:=by omega
           clear hck;go_wp2_with (first|(refine Ow.wpList_append_row _ rfl (.tmp 40) (.tmp 43) 47 rfl w.heap.size 134 ip _ 2 16 Tryz.underlying47 hip hp0 hp1 hp2 rfl (by decide) (.slice (some ⟨w.heap.size,0,none⟩) 0 0) 0 [] rfl T0.out.1 0 _ (pairCs (ps.take k)) rfl T0.out.2.1 k T0.out.2.2.1 (pairCs_one _) (by have:=HN.out.1;have:=HN.out.2.1;unfold maxLen;omega) (by have:=HN.out.1;have:=HN.out.2.1;omega) (by simp) ?_;intro v1 w1 q1 q2;rw[List.nil_append,Nat.zero_add] at q1;obtain⟨x1,y1,rfl,_⟩:=Ow.own_form q1;have T1:=zH (zA q1 (T0.out.2.2.2 _ q2));clear q1 q2 T0)|(refine Ow.wpList_append_to _ rfl (.tmp 47) (.tmp 51) 47 rfl w.heap.size 134 ip _ 2 16 Tryz.underlying47 hip hp0 hp1 hp2 rfl (by decide) (.slice x1 k y1) k (pairCs (ps.take k)) rfl (own_below' T1.out.1 _) ⟨w1.heap.size,0,none⟩ 1 1 (by omega) [zi (key:Int),zi (v:Int)] rfl rfl (fun j u hu=>Ow.new_row w1 [zi (key:Int),zi (v:Int)] _ w1.heap.size (by simp) j u hu) (by intro u hu;simp at hu;rcases hu with rfl|rfl<;>rfl) (by have:=HN.out.1;have:=HN.out.2.1;unfold maxLen;omega) (by have:=HN.out.1;have:=HN.out.2.1;omega) (by have:=T1.out.2.size;simp;omega) ?_;intro v2 w2 q1 q2 q3;obtain⟨x2,y2,rfl,_⟩:=Ow.own_form q1;have T2:=zH (zA q1 ((T1.out.2.alloc T1.out.2.size _).grown q2 (by have:=T1.out.2.size;simp;omega) (fun g hg=>(T1.out.1.lt g hg).1)));clear q1 q2 q3 T1)|(refine Ow.wpList_append_row _ rfl (.tmp 56) (.tmp 59) 47 rfl w.heap.size 134 ip _ 2 16 Tryz.underlying47 hip hp0 hp1 hp2 rfl (by decide) (.slice x1 k y1) k (pairCs (ps.take k)) rfl T1.out.1 0 (.slice (some ⟨g,off,none⟩) 0 0) (pairCs (ps.drop (k+1))) rfl (Row.eq (PR.drop (HP.out.below T1.out.2) (k+1) HN.out.2.1) (by have hz:n - (k+1)=0:=(by omega);simp[gck,hz])) (n - (k+1)) (by rw[pairCs_len,List.length_drop,HN.out.2.2.1]) (pairCs_one _) (by have:=HN.out.1;have:=HN.out.2.1;unfold maxLen;omega) (by have:=HN.out.1;have:=HN.out.2.1;omega) (T1.out.2.size) ?_;intro v3 w3 q1 q2;obtain⟨x3,y3,rfl,_⟩:=Ow.own_form q1;have T3:=zH (zA q1 (T1.out.2.grown q2 (T1.out.2.size) (fun g hg=>(T1.out.1.lt g hg).1)));clear q1 q2));go_ret;have HH:=HN.out;refine⟨x3,_,y3,rfl,?_,?_,T3.out.2⟩
           · unfold setP
             rw[HH.2.2.2.1,HH.2.2.2.2];simp[HH.2.2.1];omega
           · have h:=own_row T3.out.1
             unfold setP;rw[HH.2.2.2.1,HH.2.2.2.2];have e:pairCs (ps.take k++(if true then [] else [(key,v)])++ps.drop (if true then k+1 else k))=(pairCs (ps.take k))++pairCs (ps.drop (k+1)):=by
              rw[pairCs_app,pairCs_app];simp[show pairCs ([]:List (Nat×Nat))=[] from rfl,show pairCs [(key,v)]=[zi (key:Int),zi (v:Int)] from rfl]
             rw[e]
             first|exact h|exact Row.eq h (by simp only[Value.slice.injEq,true_and,and_true];omega)
         · have gck:(c=k+1)=False:=by simp[hck]
           have g1:(0:Nat)=0:=rfl;clear hck;go_wp2_with (first|(refine Ow.wpList_append_row _ rfl (.tmp 40) (.tmp 43) 47 rfl w.heap.size 134 ip _ 2 16 Tryz.underlying47 hip hp0 hp1 hp2 rfl (by decide) (.slice (some ⟨w.heap.size,0,none⟩) 0 0) 0 [] rfl T0.out.1 0 _ (pairCs (ps.take k)) rfl T0.out.2.1 k T0.out.2.2.1 (pairCs_one _) (by have:=HN.out.1;have:=HN.out.2.1;unfold maxLen;omega) (by have:=HN.out.1;have:=HN.out.2.1;omega) (by simp) ?_;intro v1 w1 q1 q2;rw[List.nil_append,Nat.zero_add] at q1;obtain⟨x1,y1,rfl,_⟩:=Ow.own_form q1;have T1:=zH (zA q1 (T0.out.2.2.2 _ q2));clear q1 q2 T0)|(refine Ow.wpList_append_to _ rfl (.tmp 47) (.tmp 51) 47 rfl w.heap.size 134 ip _ 2 16 Tryz.underlying47 hip hp0 hp1 hp2 rfl (by decide) (.slice x1 k y1) k (pairCs (ps.take k)) rfl (own_below' T1.out.1 _) ⟨w1.heap.size,0,none⟩ 1 1 (by omega) [zi (key:Int),zi (v:Int)] rfl rfl (fun j u hu=>Ow.new_row w1 [zi (key:Int),zi (v:Int)] _ w1.heap.size (by simp) j u hu) (by intro u hu;simp at hu;rcases hu with rfl|rfl<;>rfl) (by have:=HN.out.1;have:=HN.out.2.1;unfold maxLen;omega) (by have:=HN.out.1;have:=HN.out.2.1;omega) (by have:=T1.out.2.size;simp;omega) ?_;intro v2 w2 q1 q2 q3;obtain⟨x2,y2,rfl,_⟩:=Ow.own_form q1;have T2:=zH (zA q1 ((T1.out.2.alloc T1.out.2.size _).grown q2 (by have:=T1.out.2.size;simp;omega) (fun g hg=>(T1.out.1.lt g hg).1)));clear q1 q2 q3 T1)|(refine Ow.wpList_append_row _ rfl (.tmp 56) (.tmp 59) 47 rfl w.heap.size 134 ip _ 2 16 Tryz.underlying47 hip hp0 hp1 hp2 rfl (by decide) (.slice x1 k y1) k (pairCs (ps.take k)) rfl T1.out.1 0 (.slice (some ⟨g,off+(k+1)*2,none⟩) (n - (k+1)) (c - (k+1))) (pairCs (ps.drop (k+1))) rfl (Row.eq (PR.drop (HP.out.below T1.out.2) (k+1) HN.out.2.1) (by simp[gck,Addr.add])) (n - (k+1)) (by rw[pairCs_len,List.length_drop,HN.out.2.2.1]) (pairCs_one _) (by have:=HN.out.1;have:=HN.out.2.1;unfold maxLen;omega) (by have:=HN.out.1;have:=HN.out.2.1;omega) (T1.out.2.size) ?_;intro v3 w3 q1 q2;obtain⟨x3,y3,rfl,_⟩:=Ow.own_form q1;have T3:=zH (zA q1 (T1.out.2.grown q2 (T1.out.2.size) (fun g hg=>(T1.out.1.lt g hg).1)));clear q1 q2));go_ret;have HH:=HN.out;refine⟨x3,_,y3,rfl,?_,?_,T3.out.2⟩
           · unfold setP
             rw[HH.2.2.2.1,HH.2.2.2.2];simp[HH.2.2.1];omega
           · have h:=own_row T3.out.1
             unfold setP;rw[HH.2.2.2.1,HH.2.2.2.2];have e:pairCs (ps.take k++(if true then [] else [(key,v)])++ps.drop (if true then k+1 else k))=(pairCs (ps.take k))++pairCs (ps.drop (k+1)):=by
              rw[pairCs_app,pairCs_app];simp[show pairCs ([]:List (Nat×Nat))=[] from rfl,show pairCs [(key,v)]=[zi (key:Int),zi (v:Int)] from rfl]
             rw[e]
             first|exact h|exact Row.eq h (by simp only[Value.slice.injEq,true_and,and_true];omega)
        |false=>
         have HN:=zH (zA (show n≤1000000 from H0.out.2.1) (zA (show k+1≤n by omega) (zA (show ps.length=n from H0.out.2.2.symm) (zA hk0 hhas))));clear hk0 hhas hpk he hp e1 hc h4 hl hn hk hlt hlow HE0
         by_cases hck:c=k+1
         · have hck2:=hck
           subst hck2;have gck:(k+1=k+1)=True:=by simp
           have g1:k+1 - (k+1)=0:=by omega
           clear hck;go_wp2_with (first|(refine Ow.wpList_append_row _ rfl (.tmp 40) (.tmp 43) 47 rfl w.heap.size 134 ip _ 2 16 Tryz.underlying47 hip hp0 hp1 hp2 rfl (by decide) (.slice (some ⟨w.heap.size,0,none⟩) 0 0) 0 [] rfl T0.out.1 0 _ (pairCs (ps.take k)) rfl T0.out.2.1 k T0.out.2.2.1 (pairCs_one _) (by have:=HN.out.1;have:=HN.out.2.1;unfold maxLen;omega) (by have:=HN.out.1;have:=HN.out.2.1;omega) (by simp) ?_;intro v1 w1 q1 q2;rw[List.nil_append,Nat.zero_add] at q1;obtain⟨x1,y1,rfl,_⟩:=Ow.own_form q1;have T1:=zH (zA q1 (T0.out.2.2.2 _ q2));clear q1 q2 T0)|(refine Ow.wpList_append_to _ rfl (.tmp 47) (.tmp 51) 47 rfl w.heap.size 134 ip _ 2 16 Tryz.underlying47 hip hp0 hp1 hp2 rfl (by decide) (.slice x1 k y1) k (pairCs (ps.take k)) rfl (own_below' T1.out.1 _) ⟨w1.heap.size,0,none⟩ 1 1 (by omega) [zi (key:Int),zi (v:Int)] rfl rfl (fun j u hu=>Ow.new_row w1 [zi (key:Int),zi (v:Int)] _ w1.heap.size (by simp) j u hu) (by intro u hu;simp at hu;rcases hu with rfl|rfl<;>rfl) (by have:=HN.out.1;have:=HN.out.2.1;unfold maxLen;omega) (by have:=HN.out.1;have:=HN.out.2.1;omega) (by have:=T1.out.2.size;simp;omega) ?_;intro v2 w2 q1 q2 q3;obtain⟨x2,y2,rfl,_⟩:=Ow.own_form q1;have T2:=zH (zA q1 ((T1.out.2.alloc T1.out.2.size _).grown q2 (by have:=T1.out.2.size;simp;omega) (fun g hg=>(T1.out.1.lt g hg).1)));clear q1 q2 q3 T1)|(refine Ow.wpList_append_row _ rfl (.tmp 56) (.tmp 59) 47 rfl w.heap.size 134 ip _ 2 16 Tryz.underlying47 hip hp0 hp1 hp2 rfl (by decide) (.slice x2 (k+1) y2) (k+1) (pairCs (ps.take k)++[zi (key:Int),zi (v:Int)]) rfl T2.out.1 0 (.slice (some ⟨g,off,none⟩) 0 0) (pairCs (ps.drop (k+1))) rfl (Row.eq (PR.drop (HP.out.below T2.out.2) (k+1) HN.out.2.1) (by have hz:n - (k+1)=0:=(by omega);simp[gck,hz])) (n - (k+1)) (by rw[pairCs_len,List.length_drop,HN.out.2.2.1]) (pairCs_one _) (by have:=HN.out.1;have:=HN.out.2.1;unfold maxLen;omega) (by have:=HN.out.1;have:=HN.out.2.1;omega) (T2.out.2.size) ?_;intro v3 w3 q1 q2;obtain⟨x3,y3,rfl,_⟩:=Ow.own_form q1;have T3:=zH (zA q1 (T2.out.2.grown q2 (T2.out.2.size) (fun g hg=>(T2.out.1.lt g hg).1)));clear q1 q2));go_ret;have HH:=HN.out;refine⟨x3,_,y3,rfl,?_,?_,T3.out.2⟩
           · unfold setP
             rw[HH.2.2.2.1,HH.2.2.2.2];simp[HH.2.2.1];omega
           · have h:=own_row T3.out.1
             unfold setP;rw[HH.2.2.2.1,HH.2.2.2.2];have e:pairCs (ps.take k++(if false then [] else [(key,v)])++ps.drop (if true then k+1 else k))=(pairCs (ps.take k)++[zi (key:Int),zi (v:Int)])++pairCs (ps.drop (k+1)):=by
              rw[pairCs_app,pairCs_app];simp[show pairCs ([]:List (Nat×Nat))=[] from rfl,show pairCs [(key,v)]=[zi (key:Int),zi (v:Int)] from rfl]
             rw[e]
             first|exact h|exact Row.eq h (by simp only[Value.slice.injEq,true_and,and_true];omega)
         · have gck:(c=k+1)=False:=by simp[hck]
           have g1:(0:Nat)=0:=rfl;clear hck;go_wp2_with (first|(refine Ow.wpList_append_row _ rfl (.tmp 40) (.tmp 43) 47 rfl w.heap.size 134 ip _ 2 16 Tryz.underlying47 hip hp0 hp1 hp2 rfl (by decide) (.slice (some ⟨w.heap.size,0,none⟩) 0 0) 0 [] rfl T0.out.1 0 _ (pairCs (ps.take k)) rfl T0.out.2.1 k T0.out.2.2.1 (pairCs_one _) (by have:=HN.out.1;have:=HN.out.2.1;unfold maxLen;omega) (by have:=HN.out.1;have:=HN.out.2.1;omega) (by simp) ?_;intro v1 w1 q1 q2;rw[List.nil_append,Nat.zero_add] at q1;obtain⟨x1,y1,rfl,_⟩:=Ow.own_form q1;have T1:=zH (zA q1 (T0.out.2.2.2 _ q2));clear q1 q2 T0)|(refine Ow.wpList_append_to _ rfl (.tmp 47) (.tmp 51) 47 rfl w.heap.size 134 ip _ 2 16 Tryz.underlying47 hip hp0 hp1 hp2 rfl (by decide) (.slice x1 k y1) k (pairCs (ps.take k)) rfl (own_below' T1.out.1 _) ⟨w1.heap.size,0,none⟩ 1 1 (by omega) [zi (key:Int),zi (v:Int)] rfl rfl (fun j u hu=>Ow.new_row w1 [zi (key:Int),zi (v:Int)] _ w1.heap.size (by simp) j u hu) (by intro u hu;simp at hu;rcases hu with rfl|rfl<;>rfl) (by have:=HN.out.1;have:=HN.out.2.1;unfold maxLen;omega) (by have:=HN.out.1;have:=HN.out.2.1;omega) (by have:=T1.out.2.size;simp;omega) ?_;intro v2 w2 q1 q2 q3;obtain⟨x2,y2,rfl,_⟩:=Ow.own_form q1;have T2:=zH (zA q1 ((T1.out.2.alloc T1.out.2.size _).grown q2 (by have:=T1.out.2.size;simp;omega) (fun g hg=>(T1.out.1.lt g hg).1)));clear q1 q2 q3 T1)|(refine Ow.wpList_append_row _ rfl (.tmp 56) (.tmp 59) 47 rfl w.heap.size 134 ip _ 2 16 Tryz.underlying47 hip hp0 hp1 hp2 rfl (by decide) (.slice x2 (k+1) y2) (k+1) (pairCs (ps.take k)++[zi (key:Int),zi (v:Int)]) rfl T2.out.1 0 (.slice (some ⟨g,off+(k+1)*2,none⟩) (n - (k+1)) (c - (k+1))) (pairCs (ps.drop (k+1))) rfl (Row.eq (PR.drop (HP.out.below T2.out.2) (k+1) HN.out.2.1) (by simp[gck,Addr.add])) (n - (k+1)) (by rw[pairCs_len,List.length_drop,HN.out.2.2.1]) (pairCs_one _) (by have:=HN.out.1;have:=HN.out.2.1;unfold maxLen;omega) (by have:=HN.out.1;have:=HN.out.2.1;omega) (T2.out.2.size) ?_;intro v3 w3 q1 q2;obtain⟨x3,y3,rfl,_⟩:=Ow.own_form q1;have T3:=zH (zA q1 (T2.out.2.grown q2 (T2.out.2.size) (fun g hg=>(T2.out.1.lt g hg).1)));clear q1 q2));go_ret;have HH:=HN.out;refine⟨x3,_,y3,rfl,?_,?_,T3.out.2⟩
           · unfold setP
             rw[HH.2.2.2.1,HH.2.2.2.2];simp[HH.2.2.1];omega
           · have h:=own_row T3.out.1
             unfold setP;rw[HH.2.2.2.1,HH.2.2.2.2];have e:pairCs (ps.take k++(if false then [] else [(key,v)])++ps.drop (if true then k+1 else k))=(pairCs (ps.take k)++[zi (key:Int),zi (v:Int)])++pairCs (ps.drop (k+1)):=by
              rw[pairCs_app,pairCs_app];simp[show pairCs ([]:List (Nat×Nat))=[] from rfl,show pairCs [(key,v)]=[zi (key:Int),zi (v:Int)] from rfl]
             rw[e]
             first|exact h|exact Row.eq h (by simp only[Value.slice.injEq,true_and,and_true];omega)
      · have f0:((p.1:Int)=(key:Int))=False:=by simp;omega
        have f1:decide ((p.1:Int)=(key:Int))=false:=by simp;omega
        have f2:(p.1=key)=False:=by simp;omega
        have f3:((p.1:Int)==(key:Int))=false:=by simp;omega
        have hhas:hasAt ps k key=false:=by unfold hasAt;rw[hp];simpa using he
        cases gone with
        |true=>
         have hckne:c≠k:=by omega
         have HN:=zH (zA (show n≤1000000 from H0.out.2.1) (zA (show k≤n by omega) (zA (show ps.length=n from H0.out.2.2.symm) (zA hk0 hhas))));clear hk0 hhas hpk he hp e1 hc h4 hl hn hk hlt hlow HE0
         by_cases hck:c=k
         · exact absurd hck hckne
         · have gck:(c=k)=False:=by simp[hck]
           have g1:(0:Nat)=0:=rfl;clear hck;go_wp2_with (first|(refine Ow.wpList_append_row _ rfl (.tmp 40) (.tmp 43) 47 rfl w.heap.size 134 ip _ 2 16 Tryz.underlying47 hip hp0 hp1 hp2 rfl (by decide) (.slice (some ⟨w.heap.size,0,none⟩) 0 0) 0 [] rfl T0.out.1 0 _ (pairCs (ps.take k)) rfl T0.out.2.1 k T0.out.2.2.1 (pairCs_one _) (by have:=HN.out.1;have:=HN.out.2.1;unfold maxLen;omega) (by have:=HN.out.1;have:=HN.out.2.1;omega) (by simp) ?_;intro v1 w1 q1 q2;rw[List.nil_append,Nat.zero_add] at q1;obtain⟨x1,y1,rfl,_⟩:=Ow.own_form q1;have T1:=zH (zA q1 (T0.out.2.2.2 _ q2));clear q1 q2 T0)|(refine Ow.wpList_append_to _ rfl (.tmp 47) (.tmp 51) 47 rfl w.heap.size 134 ip _ 2 16 Tryz.underlying47 hip hp0 hp1 hp2 rfl (by decide) (.slice x1 k y1) k (pairCs (ps.take k)) rfl (own_below' T1.out.1 _) ⟨w1.heap.size,0,none⟩ 1 1 (by omega) [zi (key:Int),zi (v:Int)] rfl rfl (fun j u hu=>Ow.new_row w1 [zi (key:Int),zi (v:Int)] _ w1.heap.size (by simp) j u hu) (by intro u hu;simp at hu;rcases hu with rfl|rfl<;>rfl) (by have:=HN.out.1;have:=HN.out.2.1;unfold maxLen;omega) (by have:=HN.out.1;have:=HN.out.2.1;omega) (by have:=T1.out.2.size;simp;omega) ?_;intro v2 w2 q1 q2 q3;obtain⟨x2,y2,rfl,_⟩:=Ow.own_form q1;have T2:=zH (zA q1 ((T1.out.2.alloc T1.out.2.size _).grown q2 (by have:=T1.out.2.size;simp;omega) (fun g hg=>(T1.out.1.lt g hg).1)));clear q1 q2 q3 T1)|(refine Ow.wpList_append_row _ rfl (.tmp 56) (.tmp 59) 47 rfl w.heap.size 134 ip _ 2 16 Tryz.underlying47 hip hp0 hp1 hp2 rfl (by decide) (.slice x1 k y1) k (pairCs (ps.take k)) rfl T1.out.1 0 (.slice (some ⟨g,off+(k)*2,none⟩) (n - (k)) (c - (k))) (pairCs (ps.drop (k))) rfl (Row.eq (PR.drop (HP.out.below T1.out.2) (k) HN.out.2.1) (by simp[gck,Addr.add])) (n - (k)) (by rw[pairCs_len,List.length_drop,HN.out.2.2.1]) (pairCs_one _) (by have:=HN.out.1;have:=HN.out.2.1;unfold maxLen;omega) (by have:=HN.out.1;have:=HN.out.2.1;omega) (T1.out.2.size) ?_;intro v3 w3 q1 q2;obtain⟨x3,y3,rfl,_⟩:=Ow.own_form q1;have T3:=zH (zA q1 (T1.out.2.grown q2 (T1.out.2.size) (fun g hg=>(T1.out.1.lt g hg).1)));clear q1 q2));go_ret;have HH:=HN.out;refine⟨x3,_,y3,rfl,?_,?_,T3.out.2⟩
           · unfold setP
             rw[HH.2.2.2.1,HH.2.2.2.2];simp[HH.2.2.1];omega
           · have h:=own_row T3.out.1
             unfold setP;rw[HH.2.2.2.1,HH.2.2.2.2];have e:pairCs (ps.take k++(if true then [] else [(key,v)])++ps.drop (if false then k+1 else k))=(pairCs (ps.take k))++pairCs (ps.drop (k)):=by
              rw[pairCs_app,pairCs_app];simp[show pairCs ([]:List (Nat×Nat))=[] from rfl,show pairCs [(key,v)]=[zi (key:Int),zi (v:Int)] from rfl]
             rw[e]
             first|exact h|exact Row.eq h (by simp only[Value.slice.injEq,true_and,and_true];omega)
        |false=>
         have hckne:c≠k:=by omega
         have HN:=zH (zA (show n≤1000000 from H0.out.2.1) (zA (show k≤n by omega) (zA (show ps.length=n from H0.out.2.2.symm) (zA hk0 hhas))));clear hk0 hhas hpk he hp e1 hc h4 hl hn hk hlt hlow HE0
         by_cases hck:c=k
         · exact absurd hck hckne
         · have gck:(c=k)=False:=by simp[hck]
           have g1:(0:Nat)=0:=rfl;clear hck;go_wp2_with (first|(refine Ow.wpList_append_row _ rfl (.tmp 40) (.tmp 43) 47 rfl w.heap.size 134 ip _ 2 16 Tryz.underlying47 hip hp0 hp1 hp2 rfl (by decide) (.slice (some ⟨w.heap.size,0,none⟩) 0 0) 0 [] rfl T0.out.1 0 _ (pairCs (ps.take k)) rfl T0.out.2.1 k T0.out.2.2.1 (pairCs_one _) (by have:=HN.out.1;have:=HN.out.2.1;unfold maxLen;omega) (by have:=HN.out.1;have:=HN.out.2.1;omega) (by simp) ?_;intro v1 w1 q1 q2;rw[List.nil_append,Nat.zero_add] at q1;obtain⟨x1,y1,rfl,_⟩:=Ow.own_form q1;have T1:=zH (zA q1 (T0.out.2.2.2 _ q2));clear q1 q2 T0)|(refine Ow.wpList_append_to _ rfl (.tmp 47) (.tmp 51) 47 rfl w.heap.size 134 ip _ 2 16 Tryz.underlying47 hip hp0 hp1 hp2 rfl (by decide) (.slice x1 k y1) k (pairCs (ps.take k)) rfl (own_below' T1.out.1 _) ⟨w1.heap.size,0,none⟩ 1 1 (by omega) [zi (key:Int),zi (v:Int)] rfl rfl (fun j u hu=>Ow.new_row w1 [zi (key:Int),zi (v:Int)] _ w1.heap.size (by simp) j u hu) (by intro u hu;simp at hu;rcases hu with rfl|rfl<;>rfl) (by have:=HN.out.1;have:=HN.out.2.1;unfold maxLen;omega) (by have:=HN.out.1;have:=HN.out.2.1;omega) (by have:=T1.out.2.size;simp;omega) ?_;intro v2 w2 q1 q2 q3;obtain⟨x2,y2,rfl,_⟩:=Ow.own_form q1;have T2:=zH (zA q1 ((T1.out.2.alloc T1.out.2.size _).grown q2 (by have:=T1.out.2.size;simp;omega) (fun g hg=>(T1.out.1.lt g hg).1)));clear q1 q2 q3 T1)|(refine Ow.wpList_append_row _ rfl (.tmp 56) (.tmp 59) 47 rfl w.heap.size 134 ip _ 2 16 Tryz.underlying47 hip hp0 hp1 hp2 rfl (by decide) (.slice x2 (k+1) y2) (k+1) (pairCs (ps.take k)++[zi (key:Int),zi (v:Int)]) rfl T2.out.1 0 (.slice (some ⟨g,off+(k)*2,none⟩) (n - (k)) (c - (k))) (pairCs (ps.drop (k))) rfl (Row.eq (PR.drop (HP.out.below T2.out.2) (k) HN.out.2.1) (by simp[gck,Addr.add])) (n - (k)) (by rw[pairCs_len,List.length_drop,HN.out.2.2.1]) (pairCs_one _) (by have:=HN.out.1;have:=HN.out.2.1;unfold maxLen;omega) (by have:=HN.out.1;have:=HN.out.2.1;omega) (T2.out.2.size) ?_;intro v3 w3 q1 q2;obtain⟨x3,y3,rfl,_⟩:=Ow.own_form q1;have T3:=zH (zA q1 (T2.out.2.grown q2 (T2.out.2.size) (fun g hg=>(T2.out.1.lt g hg).1)));clear q1 q2));go_ret;have HH:=HN.out;refine⟨x3,_,y3,rfl,?_,?_,T3.out.2⟩
           · unfold setP
             rw[HH.2.2.2.1,HH.2.2.2.2];simp[HH.2.2.1];omega
           · have h:=own_row T3.out.1
             unfold setP;rw[HH.2.2.2.1,HH.2.2.2.2];have e:pairCs (ps.take k++(if false then [] else [(key,v)])++ps.drop (if false then k+1 else k))=(pairCs (ps.take k)++[zi (key:Int),zi (v:Int)])++pairCs (ps.drop (k)):=by
              rw[pairCs_app,pairCs_app];simp[show pairCs ([]:List (Nat×Nat))=[] from rfl,show pairCs [(key,v)]=[zi (key:Int),zi (v:Int)] from rfl]
             rw[e]
             first|exact h|exact Row.eq h (by simp only[Value.slice.injEq,true_and,and_true];omega)
  · have hkn:k=n:=by omega
    have hk0:lowN ps key=k:=lowN_at (by omega) hlow (fun q hq=>by rw[List.getElem?_eq_none (by omega)] at hq;cases hq);have hhas:hasAt ps k key=false:=by unfold hasAt;rw[List.getElem?_eq_none (by omega)]
    subst hkn;have b0:((k:Int)<(k:Int))=False:=by simp
    have hsl:∀ w',(Instr.slice 47 (.slice a k c) none (some (zi (k:Int))) none).run Tryz.prog w'=.ok (.slice a k c) w':=fun w'=>run_low a k c k h2 w'
    obtain⟨a2,ha2⟩:∃ a2,a2=(if c=k then a else a.map fun x=>x.add (k*2)):=⟨_,rfl⟩
    have hsh:∀ w',(Instr.slice 47 (.slice a k c) (some (zi (k:Int))) none none).run Tryz.prog w'=.ok (.slice a2 0 (c - k)) w':=fun w'=>by rw[run_high a k c k (Nat.le_refl _) h2 w',ha2,Nat.sub_self]
    have hd0:ps.drop k=[]:=List.drop_eq_nil_of_le (by omega);have HRD:Hid (∀ w',Below w.heap.size w w'→Ow.Row w' 0 2 (.slice a2 0 (c - k)) []):=zH fun w' hb=>by
     have h:=PR.drop (HP.out.below hb) k (Nat.le_refl _);rw[hd0,Nat.sub_self,←ha2] at h;exact h
    have HN:=zH (zA (show k≤1000000 from H0.out.2.1) (zA (show ps.length=k from H0.out.2.2.symm) (zA hk0 (zA hhas hd0))));clear hk0 hhas h4 hl hn hk hlt hlow HE0 ha2 hd0
    cases gone with
    |true=>
     go_wp2_with (first|(refine Ow.wpList_append_row _ rfl (.tmp 40) (.tmp 43) 47 rfl w.heap.size 134 ip _ 2 16 Tryz.underlying47 hip hp0 hp1 hp2 rfl (by decide) (.slice (some ⟨w.heap.size,0,none⟩) 0 0) 0 [] rfl T0.out.1 0 _ (pairCs (ps.take k)) rfl T0.out.2.1 k T0.out.2.2.1 (pairCs_one _) (by have:=HN.out.1;unfold maxLen;omega) (by have:=HN.out.1;omega) (by simp) ?_;intro v1 w1 q1 q2;rw[List.nil_append,Nat.zero_add] at q1;obtain⟨x1,y1,rfl,_⟩:=Ow.own_form q1;have T1:=zH (zA q1 (T0.out.2.2.2 _ q2));clear q1 q2 T0)|(refine Ow.wpList_append_row _ rfl (.tmp 56) (.tmp 59) 47 rfl w.heap.size 134 ip _ 2 16 Tryz.underlying47 hip hp0 hp1 hp2 rfl (by decide) (.slice x1 (k) y1) (k) (pairCs (ps.take k)) rfl T1.out.1 0 (.slice a2 0 (c - k)) [] rfl (HRD.out _ T1.out.2) 0 rfl (by intro u hu;cases hu) (by have:=HN.out.1;unfold maxLen;omega) (by have:=HN.out.1;omega) (T1.out.2.size) ?_;intro v3 w3 q1 q2;obtain⟨x3,y3,rfl,_⟩:=Ow.own_form q1;have T3:=zH (zA q1 (T1.out.2.grown q2 (T1.out.2.size) (fun g hg=>(T1.out.1.lt g hg).1)));clear q1 q2));go_ret;have HH:=HN.out;refine⟨x3,_,y3,rfl,?_,?_,T3.out.2⟩
     · unfold setP
       rw[HH.2.2.1,HH.2.2.2.1];simp[HH.2.1]
     · have h:=own_row T3.out.1
       unfold setP;rw[HH.2.2.1,HH.2.2.2.1];have e:pairCs (ps.take k++(if true then [] else [(key,v)])++ps.drop (if false then k+1 else k))=pairCs (ps.take k)++[]:=by
        rw[pairCs_app,pairCs_app];simp[show pairCs ([]:List (Nat×Nat))=[] from rfl,HH.2.2.2.2]
       rw[e]
       first|exact h|exact Row.eq h (by simp only[Value.slice.injEq,true_and,and_true];omega)
    |false=>
     go_wp2_with (first|(refine Ow.wpList_append_row _ rfl (.tmp 40) (.tmp 43) 47 rfl w.heap.size 134 ip _ 2 16 Tryz.underlying47 hip hp0 hp1 hp2 rfl (by decide) (.slice (some ⟨w.heap.size,0,none⟩) 0 0) 0 [] rfl T0.out.1 0 _ (pairCs (ps.take k)) rfl T0.out.2.1 k T0.out.2.2.1 (pairCs_one _) (by have:=HN.out.1;unfold maxLen;omega) (by have:=HN.out.1;omega) (by simp) ?_;intro v1 w1 q1 q2;rw[List.nil_append,Nat.zero_add] at q1;obtain⟨x1,y1,rfl,_⟩:=Ow.own_form q1;have T1:=zH (zA q1 (T0.out.2.2.2 _ q2));clear q1 q2 T0)|(refine Ow.wpList_append_to _ rfl (.tmp 47) (.tmp 51) 47 rfl w.heap.size 134 ip _ 2 16 Tryz.underlying47 hip hp0 hp1 hp2 rfl (by decide) (.slice x1 k y1) k (pairCs (ps.take k)) rfl (own_below' T1.out.1 _) ⟨w1.heap.size,0,none⟩ 1 1 (by omega) [zi (key:Int),zi (v:Int)] rfl rfl (fun j u hu=>Ow.new_row w1 [zi (key:Int),zi (v:Int)] _ w1.heap.size (by simp) j u hu) (by intro u hu;simp at hu;rcases hu with rfl|rfl<;>rfl) (by have:=HN.out.1;unfold maxLen;omega) (by have:=HN.out.1;omega) (by have:=T1.out.2.size;simp;omega) ?_;intro v2 w2 q1 q2 q3;obtain⟨x2,y2,rfl,_⟩:=Ow.own_form q1;have T2:=zH (zA q1 ((T1.out.2.alloc T1.out.2.size _).grown q2 (by have:=T1.out.2.size;simp;omega) (fun g hg=>(T1.out.1.lt g hg).1)));clear q1 q2 q3 T1)|(refine Ow.wpList_append_row _ rfl (.tmp 56) (.tmp 59) 47 rfl w.heap.size 134 ip _ 2 16 Tryz.underlying47 hip hp0 hp1 hp2 rfl (by decide) (.slice x2 (k+1) y2) (k+1) (pairCs (ps.take k)++[zi (key:Int),zi (v:Int)]) rfl T2.out.1 0 (.slice a2 0 (c - k)) [] rfl (HRD.out _ T2.out.2) 0 rfl (by intro u hu;cases hu) (by have:=HN.out.1;unfold maxLen;omega) (by have:=HN.out.1;omega) (T2.out.2.size) ?_;intro v3 w3 q1 q2;obtain⟨x3,y3,rfl,_⟩:=Ow.own_form q1;have T3:=zH (zA q1 (T2.out.2.grown q2 (T2.out.2.size) (fun g hg=>(T2.out.1.lt g hg).1)));clear q1 q2));go_ret;have HH:=HN.out;refine⟨x3,_,y3,rfl,?_,?_,T3.out.2⟩
     · unfold setP
       rw[HH.2.2.1,HH.2.2.2.1];simp[HH.2.1]
     · have h:=own_row T3.out.1
       unfold setP;rw[HH.2.2.1,HH.2.2.2.1];have e:pairCs (ps.take k++(if false then [] else [(key,v)])++ps.drop (if false then k+1 else k))=(pairCs (ps.take k)++[zi (key:Int),zi (v:Int)])++[]:=by
        rw[pairCs_app,pairCs_app];simp[show pairCs ([]:List (Nat×Nat))=[] from rfl,show pairCs [(key,v)]=[zi (key:Int),zi (v:Int)] from rfl,HH.2.2.2.2]
       rw[e]
       first|exact h|exact Row.eq h (by simp only[Value.slice.injEq,true_and,and_true];omega)
def laidP (ps:List (Nat×Nat)) (c:En.Op×Res):List (Nat×Nat):=
 if c.2.e=0 then (if c.1.kind=2∨c.1.kind=3 then setP ps c.1.key c.1.value false else if c.1.kind=4 then setP ps c.1.key 0 true else ps) else ps
def laidL (ps:List (Nat×Nat)) (l:List (En.Op×Res)):List (Nat×Nat):=l.foldl laidP ps
def pickD (l:List Dq) (at_ but:Nat) (tk:List Bool):Nat→Option Nat
 |0=>none
 |n+1=>match l[n]? with
  |none=>pickD l at_ but tk n
  |some d=>if d.state==3&&n !=but&&!tk.getD n false&&decide (d.end_≤at_)&&(match pickD l at_ but tk n with|none=>true|some j=>decide (d.end_<(l.getD j default).end_)) then some n else pickD l at_ but tk n
def stateF (l:List Dq) (at_ but:Nat):Nat→List Bool→List (Nat×Nat)→List (Nat×Nat)
 |0,_,out=>out
 |f+1,tk,out=>match pickD l at_ but tk l.length with
  |none=>out
  |some k=>stateF l at_ but f (tk.set k true) (laidL out (l.getD k default).ops)
def stateD (l:List Dq) (at_ but:Nat):List (Nat×Nat):=stateF l at_ but (l.length+1) (List.replicate l.length false) []
def rightP (c:En.Op×Res) (view:List (Nat×Nat)):Bool:=
 let f:=findP view c.1.key
 if c.1.kind=1 then (c.2.e !=0&&c.2.e !=11)||(c.2.e==0&&f.2&&c.2.value==f.1)||(c.2.e==11&&!f.2)
 else if c.1.kind=2 then (c.2.e !=0&&c.2.e !=12)||((c.2.e==12)==f.2)
 else if c.1.kind=3∨c.1.kind=4 then (c.2.e !=0&&c.2.e !=11)||((c.2.e==11) !=f.2)
 else if c.1.kind=5 then c.2.e !=0||(c.2.pairs==view.filter (fun p=>decide (c.1.key≤p.1)&&decide (p.1≤c.1.hi)))
 else true
def holdsL:List (En.Op×Res)→List (Nat×Nat)→Bool
 |[],_=>true
 |c::l,view=>rightP c view&&holdsL l (laidP view c)
def holdsK (l:List Dq) (k at_:Nat):Bool:=holdsL (l.getD k default).ops (stateD l at_ k)
def writesP (c:En.Op×Res):Bool:=c.2.e==0&&(c.1.kind==2||c.1.kind==3||c.1.kind==4)
def againL (view:List (Nat×Nat)):List (En.Op×Res)→List Nat→Bool
 |[],_=>true
 |c::l,wr=>(if c.1.kind=1∧c.2.e=0∧c.1.key ∉ wr then (findP view c.1.key).2&&(findP view c.1.key).1==c.2.value else true)&&againL view l (if writesP c then wr++[c.1.key] else wr)
def snapD (l:List Dq) (k:Nat):Bool:=holdsK l k (l.getD k default).begin_
def serialD (l:List Dq) (k:Nat):Bool:=holdsK l k ((l.getD k default).end_ - 1)
def repeatD (l:List Dq) (k:Nat):Bool:=holdsK l k (l.getD k default).begin_&&againL (stateD l ((l.getD k default).end_ - 1) k) (l.getD k default).ops []
def levelD (l:List Dq) (k:Nat):Bool:=match (l.getD k default).level with
 |1=>snapD l k
 |2=>repeatD l k
 |3=>snapD l k&&serialD l k
 |_=>false
def holdsD (l:List Dq):Bool:=(List.range l.length).all fun k=>(l.getD k default).state !=3||levelD l k
theorem setP_len (ps:List (Nat×Nat)) (key v:Nat) (gone:Bool):(setP ps key v gone).length≤ps.length+1:=by
 unfold setP;have:=lowN_le ps key;rw[List.length_append,List.length_append,List.length_take,List.length_drop]
 cases gone<;>simp<;>split<;>omega
theorem laidP_len (ps:List (Nat×Nat)) (c:En.Op×Res):(laidP ps c).length≤ps.length+1:=by
 unfold laidP
 split
 · split
   · exact setP_len _ _ _ _
   · split
     · exact setP_len _ _ _ _
     · exact Nat.le_succ _
 · exact Nat.le_succ _
def CM (w:World) (v:Value) (ops:List (En.Op×Res)):Prop:=∃ a c,v=.slice a ops.length c∧(ops.length=0∨∃ g off,a=some ⟨g,off,none⟩∧g<w.heap.size∧∀ k x,ops[k]? =some x→∃ va vn vc,PR w (.slice va vn vc) x.2.pairs∧∀ j,j<9→w.cell? ⟨g,off+(k*9+j),none⟩=(cqCs x.1 x.2 (.slice va vn vc))[j]?)
theorem CM.below {w w':World} {v:Value} {ops:List (En.Op×Res)} (h:CM w v ops) (hb:Below w.heap.size w w'):CM w' v ops:=by
 obtain⟨a,c,e,h2⟩:=h;refine⟨a,c,e,h2.imp (fun x=>x) ?_⟩;rintro ⟨g,off,e1,hg,h3⟩;refine⟨g,off,e1,Nat.lt_of_lt_of_le hg hb.size,fun k x hx=>?_⟩;obtain⟨va,vn,vc,h4,h5⟩:=h3 k x hx;exact⟨va,vn,vc,h4.below hb,fun j hj=>(hb.cell (p:=⟨g,off+(k*9+j),none⟩) hg).trans (h5 j hj)⟩
def DM (w:World) (v:Value) (l:List Dq):Prop:=∃ a c,v=.slice a l.length c∧(l.length=0∨∃ g off,a=some ⟨g,off,none⟩∧g<w.heap.size∧∀ k d,l[k]? =some d→∃ vo,CM w vo d.ops∧∀ j,j<6→w.cell? ⟨g,off+(k*6+j),none⟩=(dqCs d vo)[j]?)
theorem DM.below {w w':World} {v:Value} {l:List Dq} (h:DM w v l) (hb:Below w.heap.size w w'):DM w' v l:=by
 obtain⟨a,c,e,h2⟩:=h;refine⟨a,c,e,h2.imp (fun x=>x) ?_⟩;rintro ⟨g,off,e1,hg,h3⟩;refine⟨g,off,e1,Nat.lt_of_lt_of_le hg hb.size,fun k x hx=>?_⟩;obtain⟨vo,h4,h5⟩:=h3 k x hx;exact⟨vo,h4.below hb,fun j hj=>(hb.cell (p:=⟨g,off+(k*6+j),none⟩) hg).trans (h5 j hj)⟩
theorem laidD_any (w:World) (base:Nat) (a:Option Addr) (n c:Nat) (va:Option Addr) (vn vc:Nat) (ps:List (Nat×Nat)) (x:En.Op×Res) (hR:Ow.Row w base 2 (.slice a n c) (pairCs ps)) (hb:base≤w.heap.size) (hl:ps.length≤1000000):Calls Tryz.prog 97 #[.slice a n c,.agg (cqCs x.1 x.2 (.slice va vn vc)).toArray] w fun e w'=>∃ av n' cv,e=.returned (.slice av n' cv)∧n'=(laidP ps x).length∧Ow.Row w' base 2 (.slice av n' cv) (pairCs (laidP ps x))∧Below w.heap.size w w':=by
 obtain⟨o,r⟩:=x;have hn:n=ps.length:=by
  obtain⟨a',n',c',e,h1,-⟩:=hR;simp only[Value.slice.injEq] at e;rw[pairCs_len] at h1;omega
 have row:∀ w',Below w.heap.size w w'→Ow.Row w' base 2 (.slice a n c) (pairCs ps):=fun w' hb'=>Ow.Row.below hR hb'
 have HB:=zH (zA hR (zA hb (zA hl hn)));clear hR hb hl hn;have same:laidP ps (o,r)=ps→Calls Tryz.prog 97 #[.slice a n c,.agg #[zi (o.kind:Int),zi (o.key:Int),zi (o.hi:Int),zi (o.value:Int),zi (r.e:Int),zi (r.value:Int),.slice va vn vc,zi (r.over:Int),zi (r.reason:Int)]] w (fun e w'=>e=.returned (.slice a n c)∧Below w.heap.size w w')→Calls Tryz.prog 97 #[.slice a n c,.agg #[zi (o.kind:Int),zi (o.key:Int),zi (o.hi:Int),zi (o.value:Int),zi (r.e:Int),zi (r.value:Int),.slice va vn vc,zi (r.over:Int),zi (r.reason:Int)]] w fun e w'=>∃ av n' cv,e=.returned (.slice av n' cv)∧n'=(laidP ps (o,r)).length∧Ow.Row w' base 2 (.slice av n' cv) (pairCs (laidP ps (o,r)))∧Below w.heap.size w w':=fun h hc=>by
  rw[h];refine hc.mono ?_;rintro e w' ⟨rfl,hb'⟩;exact⟨a,n,c,rfl,HB.out.2.2.2,Ow.Row.below HB.out.1 hb',hb'⟩
 have HR:=zH row;clear row;show Calls Tryz.prog 97 #[.slice a n c,.agg #[zi (o.kind:Int),zi (o.key:Int),zi (o.hi:Int),zi (o.value:Int),zi (r.e:Int),zi (r.value:Int),.slice va vn vc,zi (r.over:Int),zi (r.reason:Int)]] w _
 by_cases he:r.e=0
 · have e1:((r.e:Int) !=0)=false:=by simp[he]
   have e2:((r.e:Int)=0)=True:=by simp[he]
   by_cases h23:o.kind=2∨o.kind=3
   · have hP:laidP ps (o,r)=setP ps o.key o.value false:=by unfold laidP;rw[if_pos he,if_pos h23]
     rw[hP];have HS:Hid (∀ w',Below w.heap.size w w'→Calls Tryz.prog 126 #[.slice a n c,zi (o.key:Int),zi (o.value:Int),.bool false] w' fun e w9=>∃ av n' cv,e=.returned (.slice av n' cv)∧n'=(setP ps o.key o.value false).length∧Ow.Row w9 base 2 (.slice av n' cv) (pairCs (setP ps o.key o.value false))∧Below w.heap.size w w9):=fun w' hb'=>by
      refine (setD_any w' _ ps o.key o.value false (Row.low (HR.out _ hb')) HB.out.2.2.1).mono ?_;rintro e w9 ⟨av,n',cv,h1,h2,h3,h4⟩;refine⟨av,n',cv,h1,h2,?_,hb'.trans (h4.mono hb'.size)⟩;obtain⟨a',m',c',e',r1,r2,r3,r4⟩:=h3;exact⟨a',m',c',e',r1,r2,r3,r4.imp (fun x=>x) (fun ⟨g,off,g1,g2,g3⟩=>⟨g,off,g1,Nat.le_trans (Nat.le_trans HB.out.2.1 hb'.size) g2,g3⟩)⟩
     clear same hP
     rcases h23 with hk|hk
     · have k1:((o.kind:Int)=2)=True:=by simp[hk]
       have k2:((o.kind:Int)==2)=true:=by simp[hk]
       clear hk;go_enter Tryz.func97,Tryz.ntmps97;go_wp2_with (go_at_call 126;refine (HS.out _ ((Below.refl _ _).alloc (Nat.le_refl _) _)).mono ?_;rintro e w9 ⟨av,n',cv,rfl,q1,q2,q3⟩;have T1:=zH (zA q1 (zA q2 q3));clear q1 q2 q3);go_ret;exact⟨av,n',cv,rfl,T1.out.1,T1.out.2.1,T1.out.2.2⟩
     · have k1:((o.kind:Int)=2)=False:=by simp[hk]
       have k2:((o.kind:Int)==2)=false:=by simp[hk]
       have k3:((o.kind:Int)=3)=True:=by simp[hk]
       have k4:((o.kind:Int)==3)=true:=by simp[hk]
       clear hk;go_enter Tryz.func97,Tryz.ntmps97;go_wp2_with (go_at_call 126;refine (HS.out _ ((Below.refl _ _).alloc (Nat.le_refl _) _)).mono ?_;rintro e w9 ⟨av,n',cv,rfl,q1,q2,q3⟩;have T1:=zH (zA q1 (zA q2 q3));clear q1 q2 q3);go_ret;exact⟨av,n',cv,rfl,T1.out.1,T1.out.2.1,T1.out.2.2⟩
   · have k1:((o.kind:Int)=2)=False:=by simp;omega
     have k2:((o.kind:Int)==2)=false:=by simp;omega
     have k3:((o.kind:Int)=3)=False:=by simp;omega
     have k4:((o.kind:Int)==3)=false:=by simp;omega
     by_cases h4:o.kind=4
     · have hP:laidP ps (o,r)=setP ps o.key 0 true:=by unfold laidP;rw[if_pos he,if_neg h23,if_pos h4]
       rw[hP];have HS:Hid (∀ w',Below w.heap.size w w'→Calls Tryz.prog 126 #[.slice a n c,zi (o.key:Int),zi 0,.bool true] w' fun e w9=>∃ av n' cv,e=.returned (.slice av n' cv)∧n'=(setP ps o.key 0 true).length∧Ow.Row w9 base 2 (.slice av n' cv) (pairCs (setP ps o.key 0 true))∧Below w.heap.size w w9):=fun w' hb'=>by
        refine (setD_any w' _ ps o.key 0 true (Row.low (HR.out _ hb')) HB.out.2.2.1).mono ?_;rintro e w9 ⟨av,n',cv,h1,h2,h3,h4⟩;refine⟨av,n',cv,h1,h2,?_,hb'.trans (h4.mono hb'.size)⟩;obtain⟨a',m',c',e',r1,r2,r3,r4⟩:=h3;exact⟨a',m',c',e',r1,r2,r3,r4.imp (fun x=>x) (fun ⟨g,off,g1,g2,g3⟩=>⟨g,off,g1,Nat.le_trans (Nat.le_trans HB.out.2.1 hb'.size) g2,g3⟩)⟩
       have k5:((o.kind:Int)=4)=True:=by simp[h4]
       have k6:((o.kind:Int)==4)=true:=by simp[h4]
       clear same hP h23 h4 he;go_enter Tryz.func97,Tryz.ntmps97;go_wp2_with (go_at_call 126;refine (HS.out _ ((Below.refl _ _).alloc (Nat.le_refl _) _)).mono ?_;rintro e w9 ⟨av,n',cv,rfl,q1,q2,q3⟩;have T1:=zH (zA q1 (zA q2 q3));clear q1 q2 q3);go_ret;exact⟨av,n',cv,rfl,T1.out.1,T1.out.2.1,T1.out.2.2⟩
     · refine same (by unfold laidP;rw[if_pos he,if_neg h23,if_neg h4]) ?_
       have k5:((o.kind:Int)=4)=False:=by simp;omega
       have k6:((o.kind:Int)==4)=false:=by simp;omega
       clear same h23 h4 he;go_enter Tryz.func97,Tryz.ntmps97;go_wp2;go_ret;exact⟨rfl,(Below.refl _ _).alloc (Nat.le_refl _) _⟩
 · refine same (by unfold laidP;rw[if_neg he]) ?_
   have e1:((r.e:Int) !=0)=true:=by simp[he]
   have e2:((r.e:Int)=0)=False:=by simp[he]
   clear same he;go_enter Tryz.func97,Tryz.ntmps97;go_wp2;go_ret;exact⟨rfl,(Below.refl _ _).alloc (Nat.le_refl _) _⟩
theorem writesD_any (w:World) (va:Option Addr) (vn vc:Nat) (x:En.Op×Res):Calls Tryz.prog 70 #[.agg (cqCs x.1 x.2 (.slice va vn vc)).toArray] w fun e w'=>e=.returned (.bool (writesP x))∧Below w.heap.size w w':=by
 obtain⟨o,r⟩:=x;show Calls Tryz.prog 70 #[.agg #[zi (o.kind:Int),zi (o.key:Int),zi (o.hi:Int),zi (o.value:Int),zi (r.e:Int),zi (r.value:Int),.slice va vn vc,zi (r.over:Int),zi (r.reason:Int)]] w _;have fin:∀ b,writesP (o,r)=b→Calls Tryz.prog 70 #[.agg #[zi (o.kind:Int),zi (o.key:Int),zi (o.hi:Int),zi (o.value:Int),zi (r.e:Int),zi (r.value:Int),.slice va vn vc,zi (r.over:Int),zi (r.reason:Int)]] w (fun e w'=>e=.returned (.bool b)∧Below w.heap.size w w')→Calls Tryz.prog 70 #[.agg #[zi (o.kind:Int),zi (o.key:Int),zi (o.hi:Int),zi (o.value:Int),zi (r.e:Int),zi (r.value:Int),.slice va vn vc,zi (r.over:Int),zi (r.reason:Int)]] w fun e w'=>e=.returned (.bool (writesP (o,r)))∧Below w.heap.size w w':=fun b h hc=>by rw[h];exact hc
 by_cases he:r.e=0
 · have e1:((r.e:Int)==0)=true:=by simp[he]
   have e2:((r.e:Int)=0)=True:=by simp[he]
   by_cases h2:o.kind=2
   · refine fin true (by unfold writesP;simp[he,h2]) ?_
     have k1:((o.kind:Int)=2)=True:=by simp[h2]
     have k2:((o.kind:Int)==2)=true:=by simp[h2]
     clear fin he h2;go_enter Tryz.func70,Tryz.ntmps70;go_wp2;go_ret;exact⟨rfl,(Below.refl _ _).alloc (Nat.le_refl _) _⟩
   · have k1:((o.kind:Int)=2)=False:=by simp;omega
     have k2:((o.kind:Int)==2)=false:=by simp;omega
     by_cases h3:o.kind=3
     · refine fin true (by unfold writesP;simp[he,h3]) ?_
       have k3:((o.kind:Int)=3)=True:=by simp[h3]
       have k4:((o.kind:Int)==3)=true:=by simp[h3]
       clear fin he h2 h3;go_enter Tryz.func70,Tryz.ntmps70;go_wp2;go_ret;exact⟨rfl,(Below.refl _ _).alloc (Nat.le_refl _) _⟩
     · have k3:((o.kind:Int)=3)=False:=by simp;omega
       have k4:((o.kind:Int)==3)=false:=by simp;omega
       by_cases h4:o.kind=4
       · refine fin true (by unfold writesP;simp[he,h4]) ?_
         have k5:((o.kind:Int)=4)=True:=by simp[h4]
         have k6:((o.kind:Int)==4)=true:=by simp[h4]
         clear fin he h2 h3 h4;go_enter Tryz.func70,Tryz.ntmps70;go_wp2;go_ret;exact⟨rfl,(Below.refl _ _).alloc (Nat.le_refl _) _⟩
       · refine fin false (by unfold writesP;simp[h2,h3,h4]) ?_
         have k5:((o.kind:Int)=4)=False:=by simp;omega
         have k6:((o.kind:Int)==4)=false:=by simp;omega
         clear fin he h2 h3 h4;go_enter Tryz.func70,Tryz.ntmps70;go_wp2;go_ret;exact⟨rfl,(Below.refl _ _).alloc (Nat.le_refl _) _⟩
 · refine fin false (by unfold writesP;simp[he]) ?_
   have e1:((r.e:Int)==0)=false:=by simp[he]
   have e2:((r.e:Int)=0)=False:=by simp[he]
   clear fin he;go_enter Tryz.func70,Tryz.ntmps70;go_wp2;go_ret;exact⟨rfl,(Below.refl _ _).alloc (Nat.le_refl _) _⟩
theorem beforeD_any (w:World) (t:Nat) (ht:t<9223372036854775808):Calls Tryz.prog 79 #[zu (t:Int)] w fun e w'=>e=.returned (zu ((t - 1:Nat):Int))∧w=w':=by
 by_cases h0:t=0
 · subst h0
   go_enter Tryz.func79,Tryz.ntmps79;go_wp2;go_ret;exact⟨rfl,rfl⟩
 · have c0:((t:Int)=0)=False:=by simp;omega
   have c1:((t:Int)==0)=false:=by simp;omega
   have n1:IntKind.u64.wrap ((t:Int) - 1)=((t - 1:Nat):Int):=by rw[IntKind.wrap_u64];omega
   clear h0 ht;go_enter Tryz.func79,Tryz.ntmps79;go_wp2;go_ret;exact⟨rfl,rfl⟩
theorem doneD_any (w:World) (vd:Value) (l:List Dq) (i:Nat) (d:Dq) (hM:DM w vd l) (hn:l.length≤1000000) (hid:∀ k d,l[k]? =some d→d.id=k+1) (hi:l[i]? =some d) (hs:d.state=3):Calls Tryz.prog 77 #[vd,zi ((i+1:Nat):Int)] w fun e w'=>e=.returned (zi (i:Int))∧w=w':=by
 obtain⟨a,c,rfl,h4⟩:=hM;have hil:i<l.length:=(List.getElem?_eq_some_iff.1 hi).1;obtain⟨g,off,rfl,hg,hc⟩:=h4.resolve_left (by omega);obtain⟨n,hnn⟩:∃ n,n=l.length:=⟨_,rfl⟩
 rw[←hnn] at hn hil ⊢;obtain⟨z,hz⟩:∃ z:Int,z=((i+1:Nat):Int):=⟨_,rfl⟩
 rw[←hz];have H0:=zH (zA hc (zA hid (zA hn (zA hil (zA hnn (zA hi (zA hs hz)))))));clear hc hid hn hil hnn hi hs hz hg h4;go_enter Tryz.func77,Tryz.ntmps77;go_wp2
 go_loopw [5] (fun j wr=>w=wr∧∃ k:Nat,j=zi (k:Int)∧k≤i) (fun j _=>n - (intOf j).toNat)
 case atStart=>exact⟨rfl,0,rfl,Nat.zero_le _⟩
 case round=>
  obtain⟨rfl,k,rfl,hk⟩:=hrel;obtain⟨hc,hid,hn,hil,hnn,hi,hs,hz⟩:=H0.out;obtain⟨d',hd'⟩:∃ d',l[k]? =some d':=⟨_,List.getElem?_eq_getElem (by omega)⟩
  obtain⟨vo,-,hj⟩:=hc k d' hd';have X0:w.cell? ⟨g,off+k*6,none⟩=some (zi (d'.id:Int)):=by have:=hj 0 (by omega);rw[Nat.add_zero] at this;exact this
  have X2:w.cell? ⟨g,off+k*6+2,none⟩=some (zi (d'.state:Int)):=by have:=hj 2 (by omega);rw[Nat.add_assoc];exact this
  have hdi:=hid k d' hd';have c0:((k:Int)<(n:Int))=True:=by simp;omega
  have c1:(k:Int)<(n:Int):=by omega
  have c2:(0:Int)≤(k:Int):=by omega
  have n3:IntKind.i64.wrap ((k:Int)+1)=(k:Int)+1:=by rw[IntKind.wrap_i64];omega
  by_cases hki:k=i
  · have hdd:d'=d:=by rw[hki,hi] at hd';exact (Option.some.inj hd').symm
    have d0:((d'.id:Int)=z)=True:=by rw[hz,hdi];simp[hki]
    have d1:((d'.id:Int)==z)=true:=by rw[hz,hdi];simp[hki]
    have d2:((d'.state:Int)=3)=True:=by rw[hdd,hs];simp
    have d3:((d'.state:Int)==3)=true:=by rw[hdd,hs];simp
    have HK:=zH hki;clear hc hid hn hil hnn hi hs hz hd' hj hdi hki hdd hk;go_wp2;go_ret;rw[HK.out];exact⟨rfl,rfl⟩
  · have d0:((d'.id:Int)=z)=False:=by rw[hz,hdi];simp;omega
    have d1:((d'.id:Int)==z)=false:=by rw[hz,hdi];simp;omega
    have HK:=zH (zA hki (zA hk hil));clear hc hid hn hil hnn hi hs hz hd' hj hdi hki hk;go_wp2
    go_roundw
    case rel=>exact⟨trivial,k+1,rfl,by have:=HK.out;omega⟩
    case measure=>have:=HK.out;simp[intOf];omega
theorem infoBo:(Tryz.prog.info? 4).map (fun i=>(i.zero,i.size,i.bytes))=some (some (.bool false),1,1):=by kernel_rfl
theorem make_bools (n:Nat) (h:n≤100000) (w:World):(Instr.makeSlice 199 (zi (n:Int)) (zi (n:Int))).run Tryz.prog w=.ok (.slice (some ⟨w.heap.size,0,none⟩) n n) (w.alloc (.cells (madeCells #[.bool false] n) 4)):=by
 obtain⟨i,hi,hz0,hz1,hz2⟩:=info_parts infoBo;have:=run_make (P:=Tryz.prog) w 199 4 i _ Tryz.underlying199 hi hz0 .i64 .i64 n n (by omega) (Int.le_refl _) (by rw[hz2];omega) (by omega);rw[hz1] at this
 simpa [Value.cells] using this
def untS:List Dq→List Bool→Nat
 |d::l,b::tk=>(if b then 0 else d.ops.length)+untS l tk
 |_,_=>0
theorem untS_set:∀ (l:List Dq) (tk:List Bool) (k:Nat) (d:Dq),l[k]? =some d→tk[k]? =some false→untS l (tk.set k true)+d.ops.length=untS l tk
 |[],tk,k,d,h,_=>by cases h
 |e::l,[],k,d,_,h=>by cases h
 |e::l,b::tk,0,d,h,h2=>by
  obtain rfl:=Option.some.inj h;obtain rfl:=Option.some.inj h2;show (if true then 0 else e.ops.length)+untS l tk+e.ops.length=(if false then 0 else e.ops.length)+untS l tk;simp;omega
 |e::l,b::tk,k+1,d,h,h2=>by
  have:=untS_set l tk k d h h2;show (if b then 0 else e.ops.length)+untS l (tk.set k true)+d.ops.length=(if b then 0 else e.ops.length)+untS l tk;omega
theorem count_set':∀ (tk:List Bool) (k:Nat),tk[k]? =some false→(tk.set k true).count false+1=tk.count false
 |[],k,h=>by cases h
 |b::tk,0,h=>by
  obtain rfl:=Option.some.inj h;simp
 |b::tk,k+1,h=>by
  have:=count_set' tk k h;simp only[List.set_cons_succ,List.count_cons];omega
def isF:Value→Bool
 |.bool false=>true
 |_=>false
def mzB (g:Nat) (w:World):Nat:=match w.heap[g]? with|some (.cells cs _ _)=>(cs.toList.filter isF).length|_=>0
theorem isF_count:∀ tk:List Bool,((tk.map Value.bool).filter isF).length=tk.count false
 |[]=>rfl
 |b::tk=>by
  have:=isF_count tk
  cases b
  · rw[List.map_cons,List.filter_cons_of_pos rfl,List.length_cons,this];simp
  · rw[List.map_cons,List.filter_cons_of_neg (by simp[isF]),this];simp
theorem mzB_is {g:Nat} {w:World} {tk:List Bool} {T:TypeId} (h:w.heap[g]? =some (.cells (tk.map Value.bool).toArray T)):mzB g w=tk.count false:=by
 unfold mzB;rw[h]
 simpa using isF_count tk
theorem pickD_step {l:List Dq} {at_ but:Nat} {tk:List Bool} {n:Nat} {d:Dq} (hd:l[n]? =some d):(pickD l at_ but tk (n+1)=some n∧d.state=3∧n≠but∧tk.getD n false=false∧d.end_≤at_∧∀ j,pickD l at_ but tk n=some j→d.end_<(l.getD j default).end_)∨
 (pickD l at_ but tk (n+1)=pickD l at_ but tk n∧¬ (d.state=3∧n≠but∧tk.getD n false=false∧d.end_≤at_∧∀ j,pickD l at_ but tk n=some j→d.end_<(l.getD j default).end_)):=by
 have key:∀ (b:Bool) (P:Prop),(b=true↔P)→((if b=true then some n else pickD l at_ but tk n)=some n∧P)∨((if b=true then some n else pickD l at_ but tk n)=pickD l at_ but tk n∧¬ P):=fun b P h=>by
  by_cases hp:P
  · rw[if_pos (h.2 hp)];exact .inl ⟨rfl,hp⟩
  · rw[if_neg (fun x=>hp (h.1 x))];exact .inr ⟨rfl,hp⟩
 conv in pickD l at_ but tk (n+1)=>unfold pickD
 conv in pickD l at_ but tk (n+1)=>unfold pickD
 rw[hd];refine key _ _ ?_
 cases hp:pickD l at_ but tk n with
 |none=>simp[and_assoc]
 |some j=>simp[and_assoc]
theorem pickD_succ {l:List Dq} {at_ but:Nat} {tk:List Bool} {m:Nat} {d:Dq} (hd:l[m]? =some d):
 ((d.state≠3∨m=but∨tk.getD m false=true∨at_<d.end_)→pickD l at_ but tk (m+1)=pickD l at_ but tk m)∧
 (d.state=3→m≠but→tk.getD m false=false→d.end_≤at_→(pickD l at_ but tk m=none→pickD l at_ but tk (m+1)=some m)∧∀ j,pickD l at_ but tk m=some j→(d.end_<(l.getD j default).end_→pickD l at_ but tk (m+1)=some m)∧(¬ d.end_<(l.getD j default).end_→pickD l at_ but tk (m+1)=some j)):=by
 rcases pickD_step (at_:=at_) (but:=but) (tk:=tk) hd with ⟨e,c1,c2,c3,c4,c5⟩|⟨e,hc⟩
 · refine⟨fun h=>?_,fun h1 h2 h3 h4=>⟨fun h5=>e,fun j h5=>⟨fun h6=>e,fun h6=>absurd (c5 j h5) h6⟩⟩⟩
   rcases h with h|h|h|h
   · exact absurd c1 h
   · exact absurd h c2
   · rw[c3] at h;cases h
   · omega
 · refine⟨fun h=>e,fun h1 h2 h3 h4=>⟨fun h5=>?_,fun j h5=>⟨fun h6=>?_,fun h6=>e.trans h5⟩⟩⟩
   · exact absurd ⟨h1,h2,h3,h4,fun j hj=>by rw[h5] at hj;cases hj⟩ hc
   · exact absurd ⟨h1,h2,h3,h4,fun j' hj=>by rw[h5] at hj;obtain rfl:=Option.some.inj hj;exact h6⟩ hc
theorem pickD_lt {l:List Dq} {at_ but:Nat} {tk:List Bool}:∀ {m k:Nat},pickD l at_ but tk m=some k→k<m∧k<l.length∧tk.getD k false=false
 |0,k,h=>by cases h
 |m+1,k,h=>by
  cases hd:l[m]? with
  |none=>
   have:pickD l at_ but tk (m+1)=pickD l at_ but tk m:=by
    conv=>lhs;unfold pickD
    rw[hd]
   rw[this] at h;have:=pickD_lt h;exact⟨by omega,this.2⟩
  |some d=>
   have hl:m<l.length:=(List.getElem?_eq_some_iff.1 hd).1;obtain⟨h1,h2⟩:=pickD_succ (at_:=at_) (but:=but) (tk:=tk) hd
   by_cases hc:d.state≠3∨m=but∨tk.getD m false=true∨at_<d.end_
   · rw[h1 hc] at h
     have:=pickD_lt h;exact⟨by omega,this.2⟩
   · have htk:tk.getD m false=false:=by
      cases hx:tk.getD m false with
      |false=>rfl
      |true=>exact absurd (.inr (.inr (.inl hx))) hc
     obtain⟨h3,h4⟩:=h2 (Classical.byContradiction (fun x=>hc (.inl x))) (fun x=>hc (.inr (.inl x))) htk (by apply Classical.byContradiction;intro x;exact hc (.inr (.inr (.inr (by omega)))))
     cases hp:pickD l at_ but tk m with
     |none=>
      rw[h3 hp] at h;obtain rfl:=Option.some.inj h;exact⟨by omega,hl,htk⟩
     |some j=>
      by_cases hlt:d.end_<(l.getD j default).end_
      · rw[(h4 j hp).1 hlt] at h
        obtain rfl:=Option.some.inj h;exact⟨by omega,hl,htk⟩
      · rw[(h4 j hp).2 hlt] at h
        obtain rfl:=Option.some.inj h;have:=pickD_lt hp;exact⟨by omega,this.2⟩
def pickI:Option Nat→Int
 |none=>-1
 |some k=>(k:Int)
theorem Row.setOther {w:World} {base size:Nat} {v u:Value} {xs:List Value} {p:Addr} (h:Ow.Row w base size v xs) (hp:p.block<base):Ow.Row (w.setCell p u) base size v xs:=by
 obtain⟨a,n,c,e,h1,h2,h3,h4⟩:=h;refine⟨a,n,c,e,h1,h2,h3,h4.imp (fun x=>x) ?_⟩;rintro ⟨g,off,g1,g2,g3,g4⟩;refine⟨g,off,g1,g2,by simpa [World.setCell] using g3,fun j hj=>?_⟩;have:=g4 j hj;obtain⟨v,hv⟩:∃ v,xs[j]? =some v:=⟨_,List.getElem?_eq_getElem (by omega)⟩
 rw[hv] at this ⊢;exact setKeep (show p.block≠g by omega) this
structure SL (w:World) (l:List Dq) (tk:List Bool) (ps:List (Nat×Nat)) (out:Value) (wr:World):Prop where
 bel:Below w.heap.size w wr
 sz:w.heap.size<wr.heap.size
 blk:wr.heap[w.heap.size]? =some (.cells (tk.map Value.bool).toArray 4)
 tl:tk.length=l.length
 row:Ow.Row wr (w.heap.size+1) 2 out (pairCs ps)
theorem SL.below {w:World} {l:List Dq} {tk:List Bool} {ps:List (Nat×Nat)} {out:Value} {wr w':World} (h:SL w l tk ps out wr) (hb:Below wr.heap.size wr w'):SL w l tk ps out w':=
 ⟨h.bel.trans (hb.mono h.bel.size),Nat.lt_of_lt_of_le h.sz hb.size,(hb.block _ h.sz).trans h.blk,h.tl,Ow.Row.below h.row hb⟩
theorem SL.tkc {w:World} {l:List Dq} {tk:List Bool} {ps:List (Nat×Nat)} {out:Value} {wr:World} (h:SL w l tk ps out wr) {k:Nat} (hk:k<tk.length):wr.cell? ⟨w.heap.size,k,none⟩=some (.bool (tk.getD k false)):=by
 rw[cell_of_row _ _ _ _ _ _ h.blk];simp[List.getD_eq_getElem?_getD,hk]
theorem SL.take {w:World} {l:List Dq} {tk:List Bool} {ps:List (Nat×Nat)} {out:Value} {wr:World} (h:SL w l tk ps out wr) (k:Nat):SL w l (tk.set k true) ps out (wr.setCell ⟨w.heap.size,k,none⟩ (.bool true)):=by
 refine⟨h.bel.setCell (p:=⟨w.heap.size,k,none⟩) (Nat.le_refl _) _,by simpa [World.setCell] using h.sz,?_,by rw[List.length_set];exact h.tl,Row.setOther h.row (by show w.heap.size<_;omega)⟩;rw[heap_setCell_same h.blk];simp[List.map_set]
theorem SL.form {w:World} {l:List Dq} {tk:List Bool} {ps:List (Nat×Nat)} {out:Value} {wr:World} (h:SL w l tk ps out wr):∃ av cv,out=.slice av ps.length cv:=by
 obtain⟨a,n,c,e,h1,-⟩:=h.row;rw[pairCs_len] at h1;exact⟨a,c,by rw[e];congr 1;omega⟩
theorem frz {w:World} {g:Nat} {cs:Array Value} {T:TypeId} (h:w.heap[g]? =some (.cells cs T)) (i:Nat):w.frozen? ⟨g,i,none⟩=false:=by
 simp[World.frozen?,h]
end Go.Proofs.YtpkenfnmkpmapaaGreat.Em
