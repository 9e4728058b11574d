import Derived.Test.YthicolbbmjfkfaaGreatQp19
import Derived.Test.YthicolbbmjfkfaaGreatQp20
namespace Go.Proofs.YthicolbbmjfkfaaGreat.Em
open Go.ChangeShapes Go.WideShapes Go.ChangeAt Go.RowKit En
set_option linter.unusedVariables false
set_option linter.unusedSimpArgs false
set_option maxRecDepth 100000
set_option maxHeartbeats 1600000
theorem least_exists {P:Nat→Prop} (h:∃ n,P n):∃ n,P n∧∀ m,m<n→¬ P m:=by
 obtain⟨n,hn⟩:=h
 induction n using Nat.strongRecOn with
 |_ n ih=>
  by_cases hm:∃ m,m<n∧P m
  · obtain⟨m,h1,h2⟩:=hm
    exact ih m h1 h2
  · exact⟨n,hn,fun m h1 h2=>hm ⟨m,h1,h2⟩⟩
open Classical in
noncomputable def leastF (P:Nat→Prop):Nat:=if h:∃ n,P n then Classical.choose (least_exists h) else 0
theorem leastF_spec {P:Nat→Prop} (h:∃ n,P n):P (leastF P):=by
 unfold leastF;rw[dif_pos h];exact (Classical.choose_spec (least_exists h)).1
theorem leastF_le {P:Nat→Prop} {n:Nat} (h:P n):leastF P≤n:=by
 have hh:∃ n,P n:=⟨n,h⟩
 unfold leastF;rw[dif_pos hh]
 rcases Nat.lt_or_ge n (Classical.choose (least_exists hh)) with h1|h1
 · exact absurd h ((Classical.choose_spec (least_exists hh)).2 n h1)
 · exact h1
def rnd (z:Int):Nat:=((z.tmod 8+8).tmod 8).toNat
theorem rnd_lt (z:Int):rnd z<8:=by unfold rnd;have h1:=Int.tmod_lt_of_pos (z.tmod 8+8) (show (0:Int)<8 by decide);omega
theorem rnd_cast (z:Int):((rnd z:Nat):Int)=(z.tmod 8+8).tmod 8:=by
 unfold rnd;have h0:=Int.lt_tmod_of_pos z (show (0:Int)<8 by decide);have h1:=Int.tmod_nonneg 8 (show (0:Int)≤z.tmod 8+8 by omega);omega
def roundOf (os:List Int):List Nat:=os.map rnd++List.range 8
def runRound:List Nat→St→Nat→Option (St×Nat)
 |[],σ,n=>some (σ,n)
 |s::l,σ,n=>match runOne σ s with
  |some (σ',b)=>runRound l σ' (if b=true then n+1 else n)
  |none=>none
def runEnd (l:List Nat) (most:Nat):Nat→St→Nat→Option (St×Nat×Bool)
 |0,_,_=>none
 |f+1,σ,n=>if σ.live.length=0 then some (σ,n,true) else match runRound l σ n with
  |some (σ',n')=>if most<n' then some (σ',0,false) else runEnd l most f σ' n'
  |none=>none
theorem frow_of_ownI {L:Lab} {w:World} {base:Nat} {av:Option Addr} {m cap:Nat} {xs:List Value} (h:w.ownsRow base 3 1 (.slice av m cap) m xs) (hL:∀ b,base≤b→L b=none):FRow L w 1 (.slice av m cap) xs:=by
 obtain⟨a,c,e,h1,h2,h3⟩:=Ow.own_form h;obtain⟨rfl,rfl⟩:av=a∧cap=c:=by simpa using e
 refine⟨av,m,cap,rfl,h.1,h1,by unfold maxLen;omega,?_⟩
 rcases h.2 with ⟨h0,hn⟩|⟨g,cap',cur,hv,hb,hg,hnc,hcm,hcs,htake⟩
 · exact .inl (by first|exact h0|omega)
 · obtain⟨rfl,rfl⟩:av=some ⟨g,0,none⟩∧cap=cap':=by simpa using hv
   refine .inr ⟨g,0,rfl,hL g (h.lt g rfl).1,(h.lt g rfl).2,fun j hj=>?_⟩;rw[Nat.zero_add];exact h.cellAt j hj
def mostOf (k:Nat):Nat:=(boundOf (k:Int) 256).toNat*8
theorem most_ok (k:Nat) (hk:k≤8):IntKind.i64.wrap (boundOf (k:Int) 256*8)=((mostOf k:Nat):Int):=by
 match k,hk with
 |0,_|1,_|2,_|3,_|4,_|5,_|6,_|7,_|8,_=>decide +kernel
 |k+9,h=>omega
theorem most_le (k:Nat) (hk:k≤8):mostOf k≤200000000:=by
 match k,hk with
 |0,_|1,_|2,_|3,_|4,_|5,_|6,_|7,_|8,_=>decide +kernel
 |k+9,h=>omega
def EndRel (A:Book) (w:World) (l:List Nat) (most:Nat) (vr:Value) (σ2:St) (n2:Nat) (ok:Bool) (f:Nat) (n:Nat) (wr:World):Prop:=
 ∃ σj A',runEnd l most f σj n=some (σ2,n2,ok)∧n≤most∧Live A' σj wr∧Grow A.L w A'.L wr∧A'.be=A.be∧FRow A'.L wr 1 vr (l.map i64)
theorem end_any {A:Book} {σ:St} {w:World} (hL:Live A σ w) (os:List Int) (ao:Option Addr) (co:Nat) (hfo:FRow A.L w 1 (.slice ao os.length co) (os.map fun z=>zi z)) (hol:os.length≤1000) (F:Nat) (σ2:St) (n2:Nat) (ok:Bool) (hrun:runEnd (roundOf os) (mostOf σ.live.length) F σ 0=some (σ2,n2,ok)):
 Calls Tryz.prog 67 #[.pointer (some ⟨A.be,0,none⟩),.slice ao os.length co] w fun e w'=>e=.returned (.tuple #[zi (n2:Int),.bool ok])∧∃ A',Live A' σ2 w'∧Grow A.L w A'.L w'∧A'.be=A.be:=by
 have hlen:σ.live.length≤8:=liveTo_le σ 8;have HLV:=zH (liveRow_any hL.rep);have HMO:=zH (zA (most_ok σ.live.length hlen) (most_le σ.live.length hlen));have n8:=most_ok σ.live.length hlen;have HH:=zH (zA hL (zA hfo (zA hol hrun)));have hoat:∀ k (hk:k<os.length) (wr:World),Below w.heap.size w wr→∃ g off,ao=some ⟨g,off,none⟩∧wr.cell? ⟨g,off+k,none⟩=some (zi os[k]):=by
  intro k hk wr hb;obtain⟨a,n,cap,e,h1,h2,h3,h4⟩:=hfo;simp only[Value.slice.injEq] at e;obtain⟨rfl,rfl,rfl⟩:=e
  rcases h4 with h4|⟨g,off,e1,e2,e3,e4⟩
  · omega
  · refine⟨g,off,e1,?_⟩
    rw[World.cell?_of_block (w:=w) (a:=⟨g,off+k,none⟩) (hb.block g e3),e4 k (by omega)];simp[hk]
 have HO:=zH hoat;clear hoat hL hfo hrun hlen;generalize hml:mostOf σ.live.length=most at*;generalize σ.live.length=k8 at*;go_enter Tryz.func67,Tryz.ntmps67;go_wp2_with (first|(go_at_call 13;refine HLV.out.mono ?_;rintro e w1 ⟨av,cap,rfl,hr,hb⟩;have HB1:=zH hb;clear hr hb)|(go_at_call 51;refine (bound_any _ _ _).mono ?_;rintro e w' ⟨rfl,rfl⟩))
 go_loopw [7,21] (fun l i wr=>∃ k:Nat,k≤os.length∧i=zi (k:Int)∧Below w.heap.size w wr∧∃ av cap,l=.slice av k cap∧wr.ownsRow w.heap.size 3 1 l k (((os.take k).map rnd).map i64)) (fun _ i _=>os.length - (intOf i).toNat)
 case atStart=>exact⟨0,Nat.zero_le _,rfl,HB1.out,none,0,rfl,rfl,.inl ⟨rfl,rfl⟩⟩
 case round=>
  obtain⟨k,hk,rfl,hb,av1,cap1,rfl,hown⟩:=hrel
  by_cases hlt:k<os.length
  · obtain⟨g,off,rfl,hc⟩:=HO.out k hlt wr hb
    have hto:os.take (k+1)=os.take k++[os[k]]:=by rw[List.take_succ_eq_append_getElem hlt]
    have hz:=rnd_cast os[k];have h0:=Int.lt_tmod_of_pos os[k] (show (0:Int)<8 by decide);have h1:=Int.tmod_lt_of_pos os[k] (show (0:Int)<8 by decide);have hz2:((rnd os[k]:Nat):Int)=os[k].tmod 8 % 8:=by rw[hz,Int.tmod_eq_emod_of_nonneg (by omega)];omega
    have HT:=zH (zA hto (zA hlt (zA hz hz2)));have nb:(k:Int)<(os.length:Int):=by omega
    have nb0:(0:Int)≤(k:Int):=by omega
    have n1:IntKind.i64.wrap ((k:Int)+1)=(k:Int)+1:=by rw[IntKind.wrap_i64];omega
    have hk4:k<4000000:=by omega
    clear hto hz hz2 hk;generalize os[k]=z at*;clear hlt;have m1:IntKind.i64.wrap (z.tmod 8+8)=z.tmod 8+8:=by rw[IntKind.wrap_i64];omega
    go_wp2_with (refine wp_int _ rfl _ _ rfl w (by assumption) _ _ _ _ rfl (by assumption) (by omega) _ rfl ?_;intro avl capl wl ql pl)
    go_roundw
    case rel=>
     obtain⟨hto,hlt,hz,hz2⟩:=HT.out;refine⟨k+1,hlt,rfl,pl,avl,capl,rfl,?_⟩;rw[hto]
     first|rw[←hz] at ql|rw[←hz2] at ql
     simpa using ql
    case measure=>have:=HT.out.2.1;simp[intOf];omega
  · obtain rfl:k=os.length:=by omega
    rw[List.take_length] at hown;clear hlt hk;go_wp2
    go_loopw [7,33] (fun l i wr=>∃ k:Nat,k≤8∧i=zi (k:Int)∧Below w.heap.size w wr∧∃ av cap,l=.slice av (os.length+k) cap∧wr.ownsRow w.heap.size 3 1 l (os.length+k) ((os.map rnd++List.range k).map i64)) (fun _ i _=>8 - (intOf i).toNat)
    case atStart=>exact⟨0,by omega,rfl,hb,av1,cap1,rfl,by simpa using hown⟩
    case round=>
     clear hown hb;obtain⟨k,hk,rfl,hb,av2,cap2,rfl,hown⟩:=hrel
     by_cases hlt:k<8
     · have n1:IntKind.i64.wrap ((k:Int)+1)=(k:Int)+1:=by rw[IntKind.wrap_i64];omega
       have nb:(k:Int)<8:=by omega
       have hk4:os.length+k<4000000:=by omega
       have HT:=zH hlt;clear hlt hk;generalize hmm:os.length+k=m at*;have HM:=zH hmm;clear hmm;go_wp2_with (refine wp_int _ rfl _ _ rfl w (by assumption) _ _ _ _ rfl (by assumption) (by omega) _ rfl ?_;intro avl capl wl ql pl)
       go_roundw
       case rel=>
        have em:os.length+(k+1)=m+1:=by have:=HM.out;omega
        refine⟨k+1,HT.out,rfl,pl,avl,capl,by rw[em],?_⟩;rw[em,List.range_succ,←List.append_assoc,List.map_append];exact ql
       case measure=>have:=HT.out;simp[intOf];omega
     · obtain rfl:k=8:=by omega
       have h8:((8:Nat):Int)=8:=rfl;rw[h8];clear h8;have hR0:wr.ownsRow w.heap.size 3 1 (.slice av2 (os.length+8) cap2) (os.length+8) ((roundOf os).map i64):=hown;obtain⟨g2,hg2⟩:∃ g2,av2=some ⟨g2,0,none⟩:=by
        rcases hR0.2 with ⟨h0,hn⟩|⟨g,cap',cur,hv,_⟩
        · omega
        · simp only[Value.slice.injEq] at hv
          exact⟨g,hv.1⟩
       have hfr:=frow_of_ownI hR0 HH.out.1.rep.mem.fresh;obtain⟨l,hl⟩:∃ l,l=roundOf os:=⟨_,rfl⟩
       have hll:l.length=os.length+8:=by rw[hl];unfold roundOf;simp
       have hl8:∀ s∈l,s<8:=by
        intro s hs;rw[hl] at hs;unfold roundOf at hs
        rcases List.mem_append.1 hs with hs|hs
        · obtain⟨z,_,rfl⟩:=List.mem_map.1 hs
          exact rnd_lt z
        · exact List.mem_range.1 hs
       obtain⟨hLive,_,hol,hrun⟩:=HH.out;rw[←hl] at hfr hrun;have hE:EndRel A w l most (.slice av2 l.length cap2) σ2 n2 ok F 0 wr:=⟨σ,A,hrun,Nat.zero_le _,hLive.below hb,Grow.below hb,rfl,by rw[hll];exact hfr.grow (Grow.refl _ _)⟩
       rw[←hll];have HS:=zH (zA hE (zA hl8 (show l.length≤2000 by omega)));have HLL:=zH hll;clear hlt hk hown hb hR0 hfr hE hl8 hll hLive hrun hol hl;subst hg2;go_wp2
       go_loopw [11] (fun i wr=>∃ f n:Nat,i=zi (n:Int)∧EndRel A w l most (.slice (some ⟨g2,0,none⟩) l.length cap2) σ2 n2 ok f n wr) (fun i wr=>leastF fun f=>EndRel A w l most (.slice (some ⟨g2,0,none⟩) l.length cap2) σ2 n2 ok f (intOf i).toNat wr)
       case atStart=>exact⟨F,0,rfl,HS.out.1⟩
       case round=>
        obtain⟨f,n,rfl,hrel⟩:=hrel;have hm:=leastF_spec (P:=fun f=>EndRel A w l most (.slice (some ⟨g2,0,none⟩) l.length cap2) σ2 n2 ok f n wr) ⟨f,hrel⟩;clear hrel f;obtain⟨f0,hf0⟩:∃ f0,leastF (fun f=>EndRel A w l most (.slice (some ⟨g2,0,none⟩) l.length cap2) σ2 n2 ok f n wr)=f0:=⟨_,rfl⟩
        rw[hf0] at hm;have HF0:=zH hf0;clear hf0;obtain⟨σj,A',hrun,hnm,hL,gr,eb,hfr⟩:=hm
        cases f0 with
        |zero=>cases hrun
        |succ f0=>
        unfold runEnd at hrun;have hlv:=liveRow_any hL.rep;rw[eb] at hlv;have HLV2:=zH hlv;have HBW:Hid (∀ w1,Below wr.heap.size wr w1→Live A' σj w1∧Grow A.L w A'.L w1∧FRow A'.L w1 1 (.slice (some ⟨g2,0,none⟩) l.length cap2) (l.map i64)):=fun w1 hb=>⟨hL.below hb,gr.trans (Grow.below hb),hfr.grow (Grow.below hb)⟩
        have HEB:=zH (zA eb hnm);clear hlv hL gr hfr eb hnm
        by_cases h0:σj.live.length=0
        · rw[if_pos h0] at hrun
          simp only[Option.some.injEq,Prod.mk.injEq] at hrun;obtain⟨rfl,rfl,rfl⟩:=hrun;rw[h0] at HLV2;clear h0;go_wp2_with (go_at_call 13;refine HLV2.out.mono ?_;rintro e w3 ⟨av3,cap3,rfl,hr,hb⟩;have HB3:=zH hb;clear hr hb)
          go_ret2
          obtain⟨q1,q2,_⟩:=HBW.out w3 HB3.out;exact⟨rfl,A',q1,q2,HEB.out.1⟩
        · rw[if_neg h0] at hrun
          have hp:0<σj.live.length:=by omega
          generalize σj.live.length=nl at*;obtain⟨fl1,fl2,fl3,fl4⟩:=zlt (x:=0) (c:=nl) (xi:=(0:Int)) (ci:=(nl:Int)) (by omega);clear h0 hp
          split at hrun
          · rename_i σ' n' hround
            have HRN:=zH (zA hrun hround);clear hrun hround;go_wp2_with (go_at_call 13;refine HLV2.out.mono ?_;rintro e w3 ⟨av3,cap3,rfl,hr,hb⟩;have HB3:=zH hb;clear hr hb)
            go_loopw [11,47] (fun i q wr2=>∃ k nk:Nat,i=zi (nk:Int)∧q=zi (k:Int)∧k≤l.length∧nk≤n+k∧∃ σk A2,runRound (l.drop k) σk nk=some (σ',n')∧Live A2 σk wr2∧Grow A.L w A2.L wr2∧A2.be=A.be∧FRow A2.L wr2 1 (.slice (some ⟨g2,0,none⟩) l.length cap2) (l.map i64)) (fun _ q _=>l.length - (intOf q).toNat)
            case atStart=>
             obtain⟨q1,q2,q3⟩:=HBW.out w3 HB3.out;exact⟨0,n,rfl,rfl,Nat.zero_le _,by omega,σj,A',HRN.out.2,q1,q2,HEB.out.1,q3⟩
            case round=>
             obtain⟨k,nk,rfl,rfl,hk,hnk,σk,A2,hrr,hL2,gr2,eb2,hfr2⟩:=hrel;have hnm:=HEB.out.2;have hml:=HMO.out.2;have hll2:=HS.out.2.2
             by_cases hlt:k<l.length
             · have hd:l.drop k=l[k]::l.drop (k+1):=List.drop_eq_getElem_cons hlt
               rw[hd] at hrr;unfold runRound at hrr;have hs8:=HS.out.2.1 l[k] (List.getElem_mem hlt);have hcl:=hfr2.at (j:=k) (v:=zi (l[k]:Int)) (by simp[hlt])
               split at hrr
               · rename_i σ3 b3 hone
                 have ho:=one_any hL2 l[k] hs8 σ3 b3 hone;rw[eb2] at ho;have HO1:=zH ho;have HK:=zH (zA hrr (zA hlt (zA hnk (zA gr2 (zA eb2 hfr2)))));have nb:(k:Int)<(l.length:Int):=by omega
                 have nb0:(0:Int)≤(k:Int):=by omega
                 have n1:IntKind.i64.wrap ((k:Int)+1)=(k:Int)+1:=by rw[IntKind.wrap_i64];omega
                 have n2':IntKind.i64.wrap ((nk:Int)+1)=(nk:Int)+1:=by rw[IntKind.wrap_i64];omega
                 clear ho hone hrr hnk gr2 eb2 hfr2 hL2 hd hs8 hk hnm hml hll2;generalize l[k]=sk at*;clear hlt
                 cases b3
                 all_goals
                  go_wp2_with (go_at_call 93;refine HO1.out.mono ?_;rintro e w4 ⟨rfl,A4,q1,q2,q3⟩;have HQ:=zH (zA q1 (zA q2 q3));clear q1 q2 q3)
                  go_roundw
                  case rel=>
                   obtain⟨hrr,hlt,hnk,gr2,eb2,hfr2⟩:=HK.out;obtain⟨q1,q2,q3⟩:=HQ.out
                   first
                   |exact⟨k+1,nk,rfl,rfl,hlt,by omega,σ3,A4,by simpa using hrr,q1,gr2.trans q2,q3.trans eb2,hfr2.grow q2⟩
                   |exact⟨k+1,nk+1,rfl,rfl,hlt,by omega,σ3,A4,by simpa using hrr,q1,gr2.trans q2,q3.trans eb2,hfr2.grow q2⟩
                  case measure=>have:=HK.out.2.1;simp[intOf];omega
               · cases hrr
             · obtain rfl:k=l.length:=by omega
               rw[List.drop_length] at hrr;unfold runRound at hrr;simp only[Option.some.injEq,Prod.mk.injEq] at hrr;obtain⟨rfl,rfl⟩:=hrr;have hrun:=HRN.out.1;have HQ:=zH (zA hL2 (zA gr2 (zA eb2 hfr2)));clear hL2 gr2 eb2 hfr2 hlt hk hll2
               by_cases hmn:most<nk
               · rw[if_pos hmn] at hrun
                 simp only[Option.some.injEq,Prod.mk.injEq] at hrun;obtain⟨rfl,rfl,rfl⟩:=hrun;obtain⟨fm1,fm2,fm3,fm4⟩:=zlt (x:=most) (c:=nk) (xi:=(most:Int)) (ci:=(nk:Int)) (by omega);clear hmn hnk hnm hml;go_wp2
                 go_ret2
                 obtain⟨q1,q2,q3,_⟩:=HQ.out;exact⟨rfl,A2,q1,q2,q3⟩
               · rw[if_neg hmn] at hrun
                 have hnew:EndRel A w l most (.slice (some ⟨g2,0,none⟩) l.length cap2) σ2 n2 ok f0 nk _:=⟨σk,A2,hrun,by omega,HQ.out.1,HQ.out.2.1,HQ.out.2.2.1,HQ.out.2.2.2⟩
                 have HNEW:=zH hnew;obtain⟨fm1,fm2,fm3,fm4⟩:=zlf (x:=most) (c:=nk) (xi:=(most:Int)) (ci:=(nk:Int)) (by omega);clear hmn hnk hnm hml hnew hrun;go_wp2
                 go_roundw
                 case rel=>exact⟨f0,nk,rfl,HNEW.out⟩
                 case measure=>exact Nat.lt_of_le_of_lt (leastF_le HNEW.out) (Nat.lt_of_lt_of_eq (Nat.lt_succ_self f0) HF0.out.symm)
          · cases hrun
structure EAt (b:Nat) (w0:World) (σ:St) (w:World):Prop where
 ex:∃ A:Book,A.be=b∧Live A σ w∧Grow (fun _=>none) w0 A.L w
theorem EAt.toBelow {b:Nat} {w0 w:World} {σ:St} (h:EAt b w0 σ w):Below w0.heap.size w0 w:=let ⟨_,_,_,g⟩:=h.ex;g.toBelow
theorem and_ok {a b:Bool} (h:(a&&b)=true):a=true∧b=true:=by simpa using h
theorem new_at (n l:Nat) (h1:1≤n) (h2:n≤256) (h3:1≤l) (h4:l≤1099511627776) (w:World):
 Calls Tryz.prog 37 #[.agg #[zi (n:Int),zu (l:Int)]] w fun e w'=>∃ b,e=.returned (.tuple #[.pointer (some ⟨b,0,none⟩),zi 0])∧EAt b w (new n l) w':=by
 refine (engineNew n l h1 h2 h3 h4 w).mono ?_;rintro e w' ⟨A,rfl,hL,g⟩;exact⟨A.be,rfl,A,rfl,hL,g⟩
inductive Kept where
 |obj (k:Nat) (o:Obj)
 |row (size:Nat) (v:Value) (xs:List Value)
 |far (k:Nat) (o:Obj)
 |floor (n:Nat)
def Kept.holds (L:Lab) (w:World):Kept→Prop
 |.obj k o=>Fix L w k o
 |.row size v xs=>FRow L w size v xs
 |.far k o=>L k=some .tmp∧w.heap[k]? =some o
 |.floor n=>n≤w.heap.size
theorem Kept.grow {L L':Lab} {w w':World} (g:Grow L w L' w'):∀ {k:Kept},k.holds L w→k.holds L' w'
 |.obj _ _,h=>Fix.grow h g
 |.row _ _ _,h=>FRow.grow h g
 |.far _ _,h=>⟨(g.lab _ (lt_of h.2)).trans h.1,(g.keep _ (lt_of h.2) h.1).trans h.2⟩
 |.floor _,h=>Nat.le_trans h g.size
def Kepts (L:Lab) (w:World):List Kept→Prop
 |[]=>True
 |k::ks=>k.holds L w∧Kepts L w ks
theorem Kepts.grow {L L':Lab} {w w':World} (g:Grow L w L' w'):∀ {ks:List Kept},Kepts L w ks→Kepts L' w' ks
 |[],_=>trivial
 |_::_,⟨h,t⟩=>⟨Kept.grow g h,Kepts.grow g t⟩
structure EKt (b:Nat) (w0:World) (ks:List Kept) (σ:St) (w:World):Prop where
 ex:∃ A:Book,A.be=b∧Live A σ w∧Grow (fun _=>none) w0 A.L w∧Kepts A.L w ks
theorem EAt.kt {b:Nat} {w0 w:World} {σ:St} (h:EAt b w0 σ w):EKt b w0 [] σ w:=let ⟨A,e,l,g⟩:=h.ex;⟨A,e,l,g,trivial⟩
theorem EKt.at {b:Nat} {w0 w:World} {σ:St} {ks:List Kept} (h:EKt b w0 ks σ w):EAt b w0 σ w:=let ⟨A,e,l,g,_⟩:=h.ex;⟨A,e,l,g⟩
theorem EKt.toBelow {b:Nat} {w0 w:World} {σ:St} {ks:List Kept} (h:EKt b w0 ks σ w):Below w0.heap.size w0 w:=h.at.toBelow
theorem EKt.tail {b:Nat} {w0 w:World} {σ:St} {k:Kept} {ks:List Kept} (h:EKt b w0 (k::ks) σ w):EKt b w0 ks σ w:=let ⟨A,e,l,g,_,t⟩:=h.ex;⟨A,e,l,g,t⟩
theorem EKt.below {b:Nat} {w0 w w':World} {σ:St} {ks:List Kept} (h:EKt b w0 ks σ w) (hb:Below w.heap.size w w'):EKt b w0 ks σ w':=
 let ⟨A,e,l,g,t⟩:=h.ex
 ⟨A,e,l.below hb,g.trans (Grow.below hb),Kepts.grow (Grow.below hb) t⟩
theorem EKt.alloc {b:Nat} {w0 w:World} {σ:St} {ks:List Kept} (h:EKt b w0 ks σ w) (o:Obj):EKt b w0 (.obj w.heap.size o::ks) σ (w.alloc o):=
 let ⟨A,e,l,g,t⟩:=h.ex
 ⟨A,e,l.alloc _,g.trans (Grow.alloc _ _ _),fix_next l.rep.mem.fresh _ rfl,Kepts.grow (Grow.alloc _ _ _) t⟩
theorem EKt.obj {b:Nat} {w0 w:World} {σ:St} {ks:List Kept} {k:Nat} {o:Obj} (h:EKt b w0 ks σ w) (hm:.obj k o∈ks):w.heap[k]? =some o:=by
 obtain⟨A,_,_,_,t⟩:=h.ex
 induction ks with
 |nil=>cases hm
 |cons x ks ih=>
  rcases List.mem_cons.1 hm with rfl|hm
  · exact t.1.2
  · exact ih h.tail hm t.2
def EV (b:Nat) (w0:World) (ks:List Kept) (σ:St) (v:Value):Ending→World→Prop:=fun e w'=>e=.returned v∧EKt b w0 ks σ w'
theorem end_kt {b:Nat} {w0 w:World} {ks:List Kept} {σ σ2:St} (h:EKt b w0 ks σ w) {F n:Nat} {x:Bool} (hr:runEnd (List.range 8) (mostOf σ.live.length) F σ 0=some (σ2,n,x)):
 Calls Tryz.prog 67 #[.pointer (some ⟨b,0,none⟩),.slice none 0 0] w (EV b w0 ks σ2 (.tuple #[zi (n:Int),.bool x])):=by
 obtain⟨A,rfl,hL,g,t⟩:=h.ex;refine (end_any hL [] none 0 (FRow.nil _ _ _) (by simp) F σ2 n x (by rw[show roundOf []=List.range 8 from rfl];exact hr)).mono ?_;rintro e w' ⟨rfl,A',hL',g',e'⟩;exact⟨rfl,A',e',hL',g.trans g',Kepts.grow g' t⟩
theorem same_result (e v x y:Int) (a1 a2:Option Addr) (n c1 c2:Nat) (ps:List (Nat×Nat)) (w:World) (h1:Ow.Row w 0 2 (.slice a1 n c1) (pairCs ps)) (h2:Ow.Row w 0 2 (.slice a2 n c2) (pairCs ps)):
 Calls Tryz.prog 12 #[.agg #[zi e,zi v,.slice a1 n c1,zi x,zi y],.agg #[zi e,zi v,.slice a2 n c2,zi x,zi y]] w fun e w'=>e=.returned (.bool true)∧Below w.heap.size w w':=by
 have H1:=zH h1;have H2:=zH h2;clear h1 h2;go_enter Tryz.func12,Tryz.ntmps12;go_wp2_with (go_at_call 52;refine (same_pairs _ _ ps _ _ _ (Row.alloc' (Row.alloc' H1.out _) _) (Row.alloc' (Row.alloc' H2.out _) _)).mono ?_;rintro e w9 ⟨rfl,q⟩;have HB:=zH q;clear q);go_ret;refine⟨rfl,?_⟩;have hb:=HB.out;have h2:Below w.heap.size w ((w.alloc (.cells #[zi e,zi v,.slice a1 n c1,zi x,zi y] 46)).alloc (.cells #[zi e,zi v,.slice a2 n c2,zi x,zi y] 46)):=(((Below.refl _ _).alloc (Nat.le_refl _) _)).alloc (by simp) _;exact h2.trans (hb.mono h2.size)
structure Dl where
 id:Nat
 level:Nat
 state:Nat
 begin_:Nat
 end_:Nat
 ops:List (En.Op×Res)
 deriving Repr,DecidableEq,Inhabited
structure Wd where
 σ:St
 deals:List Dl
 ids:List Nat
 ops:List En.Op
 gone:List Nat
 deriving Repr,DecidableEq,Inhabited
structure WBook where
 M:Lab
 bw:Nat
 vd:Value
 vg:Value
 ds:List (Dl×Value)
 cs:Nat→List Value
def opC (o:En.Op):List Value:=[i64 o.kind,i64 o.key,i64 o.hi,i64 o.value]
def dealCs (d:Dl) (v:Value):List Value:=[i64 d.id,i64 d.level,i64 d.state,u64 d.begin_,u64 d.end_,v]
def dealsCs (l:List (Dl×Value)):List Value:=l.flatMap fun p=>dealCs p.1 p.2
def callsC (o:En.Op) (r:Res) (vp:Value):List Value:=opC o++[i64 r.e,i64 r.value,vp,i64 r.over,i64 r.reason]
def worldCs (be:Nat) (B:WBook) (W:Wd):List Value:=[ptr be,B.vd]++(W.ids.map i64++(W.ops.flatMap opC++[B.vg]))
def Cls (L:Lab) (w:World):List (En.Op×Res)→List Value→Prop
 |[],cs=>cs=[]
 |p::l,cs=>∃ vp cs',cs=callsC p.1 p.2 vp++cs'∧FRow L w 2 vp (pairCs p.2.pairs)∧Cls L w l cs'
def wmem (be:Nat) (B:WBook) (W:Wd):Role→Entry
 |.eng=>.obj B.bw (worldCs be B W) 38
 |.tale=>.own B.vd 149 6 B.ds.length (dealsCs B.ds)
 |.free=>.own B.vg 3 1 W.gone.length (W.gone.map i64)
 |.reads k=>match B.ds[k]? with|some p=>.own p.2 178 9 p.1.ops.length (B.cs k)|none=>.none
 |_=>.none
structure WRep (A:Book) (W:Wd) (B:WBook) (w:World):Prop where
 tie:∀ b r,B.M b=some r→A.L b=some .tmp
 mem:Holds B.M w (wmem A.be B W)
 cls:∀ k p,B.ds[k]? =some p→Cls A.L w p.1.ops (B.cs k)
 dl:B.ds.map (·.1)=W.deals
 i8:W.ids.length=8
 o8:W.ops.length=8
theorem Kept.soft {L L':Lab} {w w':World} (g:Soft L w L' w'):∀ {k:Kept},(∀ b o,k=.far b o→L b=some .tmp→b<w.heap.size→L' b=some .tmp∧w'.heap[b]? =w.heap[b]?)→k.holds L w→k.holds L' w'
 |.obj _ _,_,h=>Fix.soft h g
 |.row _ _ _,_,h=>FRow.soft h g
 |.far b o,f,h=>let ⟨e1,e2⟩:=f b o rfl h.1 (lt_of h.2);⟨e1,e2.trans h.2⟩
 |.floor _,_,h=>Nat.le_trans h g.size
theorem Kepts.soft {L L':Lab} {w w':World} (g:Soft L w L' w'):∀ {ks:List Kept},(∀ b o,Kept.far b o∈ks→L b=some .tmp→b<w.heap.size→L' b=some .tmp∧w'.heap[b]? =w.heap[b]?)→Kepts L w ks→Kepts L' w' ks
 |[],_,_=>trivial
 |_::_,f,⟨h,t⟩=>⟨Kept.soft g (fun b o e=>f b o (e ▸ List.mem_cons_self)) h,Kepts.soft g (fun b o e=>f b o (List.mem_cons_of_mem _ e)) t⟩
def KW (M L:Lab) (w:World) (ks:List Kept):Prop:=Kepts L w ks∧∀ b o,Kept.far b o∈ks→M b=none
theorem KW.nil {M L:Lab} {w:World}:KW M L w []:=⟨trivial,fun _ _ h=>by cases h⟩
structure WK (B:WBook) (be:Nat) (w0:World) (ks:List Kept) (W:Wd) (w:World):Prop where
 ex:∃ A:Book,A.be=be∧Live A W.σ w∧WRep A W B w∧Grow (fun _=>none) w0 A.L w∧KW B.M A.L w ks
section
variable {B:WBook} {be:Nat} {w0 w w':World} {ks:List Kept} {W:Wd}
end
section
variable {B:WBook} {be:Nat} {w0 w w':World} {ks:List Kept} {W:Wd}
end
section
variable {B:WBook} {be:Nat} {w0 w w':World} {ks:List Kept} {W:Wd}
end
section
variable {B:WBook} {be:Nat} {w0 w w':World} {ks:List Kept} {W:Wd}
theorem WK.ge (h:WK B be w0 ks W w) {b:Nat} {r:Role} (hb:B.M b=some r):w0.heap.size≤b:=by
 obtain⟨A,rfl,l,r',g,t⟩:=h.ex
 rcases Nat.lt_or_ge b w0.heap.size with h1|h1
 · have:=r'.tie b r hb
   rw[g.lab _ h1] at this;cases this
 · exact h1
end
theorem obj_cell {w:World} {g:Nat} {cs:Array Value} {T:TypeId} (h:w.heap[g]? =some (.cells cs T)) (i:Nat) {v:Value} (hv:cs[i]? =some v):w.cell? ⟨g,i,none⟩=some v:=by
 rw[cell_of_row w g i _ _ _ h];exact hv
def wNew (n l:Nat):Wd:={σ:=new n l,deals:=[],ids:=List.replicate 8 0,ops:=List.replicate 8 ⟨0,0,0,0⟩,gone:=[]}
theorem wk_new {be:Nat} {w0 w:World} {σ:St} (h:EKt be w0 [] σ w):WK ⟨lab1 (fun _=>none) w.heap.size .eng,w.heap.size,.slice none 0 0,.slice none 0 0,[],fun _=>[]⟩ be w0 [] {σ:=σ,deals:=[],ids:=List.replicate 8 0,ops:=List.replicate 8 ⟨0,0,0,0⟩,gone:=[]} (w.alloc (.cells (worldCs be ⟨lab1 (fun _=>none) w.heap.size .eng,w.heap.size,.slice none 0 0,.slice none 0 0,[],fun _=>[]⟩ {σ:=σ,deals:=[],ids:=List.replicate 8 0,ops:=List.replicate 8 ⟨0,0,0,0⟩,gone:=[]}).toArray 38)):=by
 obtain⟨A,rfl,l,g,_⟩:=h.ex;obtain⟨_,g1,t1,t2⟩:=l.rep.newTmp (.cells (worldCs A.be ⟨lab1 (fun _=>none) w.heap.size .eng,w.heap.size,.slice none 0 0,.slice none 0 0,[],fun _=>[]⟩ {σ:=σ,deals:=[],ids:=List.replicate 8 0,ops:=List.replicate 8 ⟨0,0,0,0⟩,gone:=[]}).toArray 38);refine⟨A.tmp w.heap.size,rfl,l.newTmp _,⟨fun b r hb=>?_,⟨fun q=>?_,fun b hb=>?_⟩,(fun k p hk=>by cases hk),rfl,rfl,rfl⟩,g.trans g1,KW.nil⟩
 · by_cases hbb:b=w.heap.size
   · subst hbb;exact t1
   · replace hb:lab1 (fun _=>none) w.heap.size Role.eng b=some r:=hb
     rw[lab1_other hbb] at hb;cases hb
 · cases q with
   |eng=>exact⟨(lab1_same _ _ _:lab1 (fun _=>none) w.heap.size Role.eng w.heap.size=_),t2⟩
   |tale=>exact⟨World.ownsRow_nil _ _ _ _,fun g hg=>by cases hg⟩
   |free=>exact⟨World.ownsRow_nil _ _ _ _,fun g hg=>by cases hg⟩
   |reads k=>exact trivial
   |_=>exact trivial
 · have:w.heap.size+1≤b:=by simpa using hb
   exact (lab1_other (by omega):lab1 (fun _=>none) w.heap.size Role.eng b=none)
theorem wnew_any (n l:Nat) (h1:1≤n) (h2:n≤256) (h3:1≤l) (h4:l≤1099511627776) (w:World):
 Calls Tryz.prog 7 #[zi (n:Int),zu (l:Int)] w fun e w'=>∃ B be,e=.returned (.pointer (some ⟨B.bw,0,none⟩))∧WK B be w [] (wNew n l) w':=by
 have HN:Hid (Calls Tryz.prog 37 #[.agg #[zi (n:Int),zu (l:Int)]] w fun e w'=>∃ b,e=.returned (.tuple #[.pointer (some ⟨b,0,none⟩),zi 0])∧EKt b w [] (new n l) w'):=(new_at n l h1 h2 h3 h4 w).mono fun e w' ⟨b,h,q⟩=>⟨b,h,q.kt⟩
 clear h1 h2 h3 h4;go_enter Tryz.func7,Tryz.ntmps7;go_wp2_with (go_at_call 37;refine HN.out.mono ?_;rintro e w1 ⟨be,rfl,q⟩;have T1:=zH q;clear q);go_ret;exact⟨_,_,rfl,wk_new T1.out⟩
end Go.Proofs.YthicolbbmjfkfaaGreat.Em
