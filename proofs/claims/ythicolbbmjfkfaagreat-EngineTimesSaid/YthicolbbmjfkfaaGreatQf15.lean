import Derived.Test.YthicolbbmjfkfaaGreatQf14
import Derived.Test.YthicolbbmjfkfaaGreatQf12
import Derived.Test.YthicolbbmjfkfaaGreatQf13
set_option linter.unusedVariables false
set_option linter.unusedSimpArgs false
set_option maxRecDepth 100000
set_option maxHeartbeats 1600000
namespace Go.Proofs.YthicolbbmjfkfaaGreat.Em
open Go.ChangeShapes Go.WideShapes Go.ChangeAt Go.RowKit En
def vl (D:St) (l:Nat):Bool:=decide (1<=l % 131072)&&decide (l % 131072<=D.aG)&&decide (l<18446744073709551616)
def JL (D:St) (l:Nat):Bool:=l==0||vl D l
def lH (D:St):Bool:=decide (D.free.length<100000)&&D.free.all (fun i=>decide (i<D.aG))&&D.tags.all (fun p=>decide (p.1<=65535))&&decide (D.jh<1000000)
def ug (D:St) (t:bL):Bool:=t.keys.all fun F=>match t.cell F with|some x=>JL D x.own&&JL D x.old|none=>false
def uh (D:St) (t:bL):Bool:=t.cells.all fun p=>!p.2.there||vl D p.2.own
def sP (D:St) (s:Nat) (h:dR) (G:Nat):Bool:=decide ((D.t s).reads.length<1000000)&&match h.thn with
 |.get=>JL D G
 |.scan k=>decide (k=h.F)&&JL D G&&decide (k<=63)&&decide ((D.c s).op.hi<=63)&&uh D (D.t s)&&decide ((D.c s).r.aL.length<90000)
 |.change=>decide ((D.c s).op.F=h.F)
 |.judge i _=>decide (i+1<=(D.t s).reads.length)
def small (D:St) (i:Nat):Bool:=decide (D.word i<18446744073709551616)
def qH (D:St) (s:Nat):Bool:=decide ((D.t s).aR.length<1000000)&&decide (D.aQ.length<1000000)
def QT (D:St) (s:Nat) (k:K):Bool:=
 decide (D.count<3000000000000000000)&&match k with
 |.fin _=>true
 |.start h=>decide (h.F<64)&&(D.word (9+h.F) !=0||sP D s h 0)
 |.visit h G=>vl D G&&small D (af G 0)
 |.older h G=>vl D G&&(D.word (af G 2) !=0||sP D s h 0)
 |.maker h G id=>decide (id<=2000)&&small D (D.place id)
 |.ended h G mb=>vl D G&&small D (af G 1)&&(mb !=0||sP D s h G)
 |.ik h G mb id=>decide (id<=2000)&&small D (D.place id)&&qH D s&&(mb !=0||sP D s h G)
 |.seen h G mb=>decide (mb<=2000)&&small D (D.place mb)&&qH D s&&sP (if bA (D.word (D.place mb))=2 then D.tick.bind s mb else D.tick) s h G
 |.again _=>match (D.t s).cell (D.c s).op.F with|some x=>vl D x.own|none=>false
 |.own G=>vl D G&&small D (af G 1)
 |.iw _ _ id=>decide (id<=2000)&&small D (D.place id)
 |.claim G _=>vl D G&&decide (1<=(D.t s).id)&&decide ((D.t s).id<=65535)&&((D.t s).cell (D.c s).op.F).isNone&&decide ((D.t s).keys.length<1000000)&&lH D
 |.fresh G=>JL D G&&decide ((D.c s).op.F<64)&&lH D
 |.next G _ at_=>JL D G&&vl D at_&&lH D
 |.free G _ at_=>JL D G&&vl D at_&&lH D&&small D (af at_ 0)
 |.dX G _ _ id=>JL D G&&decide (id<=2000)&&small D (D.place id)&&lH D
 |.fJ x G head=>vl D G&&decide (1<=(D.t s).id)&&decide ((D.t s).id<=65535)
 |.eU x G head=>vl D G
 |.push G head=>vl D G
 |.dV G head=>decide ((D.c s).op.F<64)&&((D.t s).cell (D.c s).op.F).isNone&&decide ((D.t s).keys.length<1000000)
 |.over _=>decide ((D.c s).op.F<64)
 |.iB G _=>vl D G
 |.eu _ _=>decide ((D.c s).op.F<64)&&((D.t s).cell (D.c s).op.F).isSome
 |.draw=>decide (D.word 0<18446744073709551616)
 |.eX x now=>decide (x<18446744073709551616)&&decide (aZ x<=2000)
 |.turn x now=>decide (now<281474976710655)&&decide ((D.t s).id<65536)&&decide (D.aQ.length<1000000)
 |.eB=>decide ((D.t s).ay<281474976710656)&&decide ((D.t s).id<=2000)&&decide ((D.t s).reads.length<1000000)
 |.wait i=>match (D.t s).aR[i]? with|some bd=>decide (bd<=2000)&&small D (D.place bd)&&decide ((D.t s).aR.length<1000000)|none=>false
 |.cZ=>decide ((D.t s).ay<=1099511627776)&&decide ((D.t s).id<=2000)&&decide ((D.t s).keys.length<1000000)&&ug D (D.t s)&&decide (D.aQ.length<1000000)
 |.abort _ _=>decide ((D.t s).ay<=1099511627776)&&decide (1<=(D.t s).id)&&decide ((D.t s).id<=2000)&&decide ((D.t s).keys.length<1000000)&&ug D (D.t s)&&decide (D.aQ.length<1000000)
 |.turns [] r=>true
 |.turns (x::l) r=>decide (x.at_<D.words.length)
theorem fT {D:St} {l:Nat} (h:vl D l=true):VL D l:=by
 unfold vl at h;simp only[gT,zd] at h;exact⟨h.1.1,h.1.2,h.2⟩
theorem nN {D:St} {l:Nat} (h:JL D l=true):l=0∨VL D l:=by
 unfold JL at h;simp only[pR,beq_iff_eq] at h;exact h.imp id fT
theorem jC {D:St} (hn:D.tags.length=D.aG) (h:lH D=true):iY D:=by
 unfold lH at h;simp only[gT,zd,List.all_eq_true] at h;refine⟨h.1.1.1,fun i hi=>by simpa using h.1.1.2 i hi,fun i hi=>?_,h.2⟩;have:(D.tags.getD i (0,false))∈D.tags:=by
  rw[mM,ym (by omega)];exact List.getElem_mem _
 simpa using h.1.2 _ this
theorem wO {D:St} {t:bL} (h:ug D t=true):Fa D t:=by
 intro F Y;unfold ug at h;rw[List.all_eq_true] at h;have:=h F Y
 cases hc:t.cell F with
 |none=>rw[hc] at this;cases this
 |some x=>
  rw[hc] at this;simp only[gT] at this;exact⟨x,rfl,nN this.1,nN this.2⟩
theorem Oz {l:List (Nat×lg)} {F:Nat} {x:lg} (h:l.lookup F=some x):(F,x)∈l:=by
 induction l with
 |nil=>cases h
 |cons a l ih=>
  obtain⟨k,y⟩:=a;rw[List.lookup_cons] at h
  by_cases Y:F=k
  . subst Y
    simp at h;subst h;exact iG
  . rw[beq_false_of_ne Y] at h
    exact nV _ (ih h)
theorem wP {D:St} {t:bL} (h:uh D t=true):wK D t:=by
 intro F x hx hth;unfold uh at h;rw[List.all_eq_true] at h;have:=h _ (Oz hx);simp only[hth,Bool.not_true,Bool.false_or] at this;exact fT this
theorem fe {D:St} {i:Nat} (h:small D i=true):D.word i<18446744073709551616:=by unfold small at h;simpa using h
theorem kS {A:az} {D:St} {w:World} (hR:aF A D w) {id:Nat} (h:id<=2000):D.place id<D.words.length:=by rw[hR.nw];unfold St.place;omega
theorem bK {f f':FuncId} {b b' c c':Array Value} (h:Value.func (.func f) b c=.func (.func f') b' c'):f=f'∧b=b'∧c=c':=by
 simp only[Value.func.injEq,Fn.func.injEq] at h;exact h
theorem mZ {D:St} {s:Nat} {t:bL} (ht:D.ai.getD s none=some t) {c:dY} (hc:D.calls.getD s none=some c) {hu:dR} {G:Nat} (h:sP D s hu G=true):wy D s hu G:=by
 intro A w hR hmp H f cc r g hth;obtain⟨F,at_,thn⟩:=hu;unfold sP at h;rw[cK ht,bC hc,gT,zd] at h;obtain⟨hrl,h⟩:=h
 cases thn<;>simp only[gT,zd] at h
 case get=>
  obtain⟨b0,b1,b2,b3,e,k0,k1,k2,k3⟩:=hth;obtain⟨rfl,-,rfl⟩:=bK e;exact R9 r s t ht F G b0 b1 b2 b3 k0 k1 k2 k3 at_ (nN h) hrl
 case scan k=>
  obtain⟨⟨⟨⟨⟨rfl,h1⟩,h2⟩,h3⟩,h4⟩,h5⟩:=h;obtain⟨b0,b1,b2,b3,b4,e,k0,k1,k2,k3,k4⟩:=hth;obtain⟨rfl,-,rfl⟩:=bK e;exact QN r s t ht c hc k G at_ b0 b1 b2 b3 b4 k0 k1 k2 k3 k4 (nN h1) h2 h3 (wP h4) (by omega) hrl
 case change=>
  obtain⟨b0,b1,b2,b3,e,k0,k1,k2,k3⟩:=hth;obtain⟨rfl,-,rfl⟩:=bK e;exact Ka r s t ht c hc F G b0 b1 b2 b3 h k0 k1 k2 k3 at_ hrl
 case judge i l=>
  obtain⟨b0,b1,b2,b3,b4,e,k0,k1,k2,k3,k4⟩:=hth;obtain⟨rfl,-,rfl⟩:=bK e;exact Od r s t ht i l at_ F G b0 b1 b2 b3 b4 k0 k1 k2 k3 k4 h hrl
theorem KI {D:St} {s tq:Nat} {t:bL} (ht:D.ai.getD s none=some t):∃ t',(D.bind s tq).ai.getD s none=some t':=by
 unfold St.bind;rw[cK ht]
 split
 . exact⟨t,ht⟩
 . exact⟨{t with aR:=t.aR++[tq]},by show (D.bM s _).ai.getD s none=_;rw[dB (dA ht),aW rfl]⟩
theorem Fx (D:St) (s tq:Nat):(D.bind s tq).calls=D.calls:=by unfold St.bind;split<;>rfl
set_option maxHeartbeats 4000000 in
theorem QU {D:St} {s:Nat} (hs:s<8) {t:bL} (ht:D.ai.getD s none=some t) {c:dY} (hc:D.calls.getD s none=some c) (k:K) (h:QT D s k=true):AJ D s k:=by
 intro A H f b cc hR hmp hmt Y;unfold QT at h;rw[gT,zd] at h;obtain⟨Xw,h⟩:=h;have aN:D.count<4000000000000000000:=by omega
 have et:=cK ht;have ec:=bC hc
 cases k
 case fin r=>
  obtain⟨b0,b1,b2,e,k0,k1,k2⟩:=Y;obtain⟨rfl,rfl,rfl⟩:=bK e;exact SE hR s c hc r b0 b1 b2 k0 k1 k2
 case start hu=>
  obtain⟨bh,e,k0⟩:=Y;obtain⟨rfl,rfl,rfl⟩:=bK e;simp only[gT,zd,pR,bne_iff_ne] at h;exact Nw hR s hu bh k0 h.1 aN fun hz w2 r2 g2=>mZ (D:=D.tick) ht hc (h.2.resolve_left (fun hne=>hne hz)) A w2 r2 hmp
 case visit hu G=>
  obtain⟨b0,b1,e,k0,k1⟩:=Y;obtain⟨rfl,rfl,rfl⟩:=bK e;simp only[et,ec,gT,zd,pR,bne_iff_ne,vz,ou] at h;obtain⟨h1,h2⟩:=h;exact Nr hR s t ht hu G b0 b1 k0 k1 (fT h1).lo (fT h1).hi (fT h1).u (fe h2) aN
 case older hu G=>
  obtain⟨b0,b1,e,k0,k1⟩:=Y;obtain⟨rfl,rfl,rfl⟩:=bK e;simp only[et,ec,gT,zd,pR,bne_iff_ne,vz,ou] at h;obtain⟨h1,h2⟩:=h;exact Nz hR s hmp hu G b0 b1 k0 k1 (fT h1) aN (fun hz=>mZ (D:=D.tick) ht hc (h2.resolve_left (fun hne=>hne hz)))
 case maker hu G id=>
  obtain⟨b0,b1,b2,e,k0,k1,k2⟩:=Y;obtain⟨rfl,rfl,rfl⟩:=bK e;simp only[et,ec,gT,zd,pR,bne_iff_ne,vz,ou] at h;obtain⟨h1,h2⟩:=h;exact NA hR s hu G id b0 b1 b2 k0 k1 k2 (by omega) (kS hR h1) (fe h2) aN
 case ended hu G mb=>
  obtain⟨b0,b1,b2,e,k0,k1,k2⟩:=Y;obtain⟨rfl,rfl,rfl⟩:=bK e;simp only[et,ec,gT,zd,pR,bne_iff_ne,vz,ou] at h;obtain⟨⟨h1,h2⟩,h3⟩:=h;exact Oh hR s hmp t ht hu G mb b0 b1 b2 k0 k1 k2 (fT h1) (fe h2) aN (fun hz=>mZ (D:=D.tick) ht hc (h3.resolve_left (fun hne=>hne hz)))
 case ik hu G mb id=>
  obtain⟨b0,b1,b2,b3,e,k0,k1,k2,k3⟩:=Y;obtain⟨rfl,rfl,rfl⟩:=bK e;simp only[et,ec,gT,zd,pR,bne_iff_ne,vz,ou] at h;unfold qH at h;simp only[et,gT,zd] at h;obtain⟨⟨⟨h1,h2⟩,h3,h4⟩,h5⟩:=h;exact Ob hR s hmp t ht hu G mb id b0 b1 b2 b3 k0 k1 k2 k3 (by omega) (kS hR h1) (fe h2) h3 h4 aN (fun hz=>mZ (D:=D.tick) ht hc (h5.resolve_left (fun hne=>hne hz)))
 case seen hu G mb=>
  obtain⟨b0,b1,b2,e,k0,k1,k2⟩:=Y;obtain⟨rfl,rfl,rfl⟩:=bK e;simp only[et,ec,gT,zd,pR,bne_iff_ne,vz,ou] at h;unfold qH at h;simp only[et,gT,zd] at h;obtain⟨⟨⟨h1,h2⟩,h3,h4⟩,h5⟩:=h;have VM:wy (if bA (D.word (D.place mb))=2 then D.tick.bind s mb else D.tick) s hu G:=by
   split at h5
   . rename_i hq
     rw[aW hq];obtain⟨t',ht'⟩:=KI (D:=D.tick) (tq:=mb) ht;exact mZ ht' (by rw[Fx];exact hc) h5
   . rename_i hq
     rw[bu hq];exact mZ (D:=D.tick) ht hc h5
  exact QL hR s hmp t ht hu G mb b0 b1 b2 k0 k1 k2 (by omega) (kS hR h1) (fe h2) h3 h4 aN VM (fun _ _=>trivial)
 case again en=>
  obtain⟨b0,b1,b2,b3,e,k0,k1,k2,k3⟩:=Y;obtain⟨rfl,rfl,rfl⟩:=bK e;simp only[et,ec,gT,zd,pR,bne_iff_ne,vz,ou] at h
  cases hx:t.cell c.op.F with
  |none=>rw[hx] at h;cases h
  |some x=>
  rw[hx] at h
  by_cases hkd:c.op.kind=4
  . exact Df hR s t ht c hc en x hx (fT h) hkd aN b0 b1 b2 b3 k0 k1 k2 k3
  exact Dg hR s t ht c hc en x hx (fT h) hkd aN b0 b1 b2 b3 k0 k1 k2 k3
 case own G=>
  obtain⟨b0,b1,b2,b3,e,k0,k1,k2,k3⟩:=Y;obtain⟨rfl,rfl,rfl⟩:=bK e;simp only[et,ec,gT,zd,pR,bne_iff_ne,vz,ou] at h;obtain⟨h1,h2⟩:=h;exact Tu hR s t ht G (fT h1) (fe h2) aN b0 b1 b2 b3 k0 k1 k2 k3
 case iw G x1 id=>
  obtain⟨b0,b1,b2,b3,b4,b5,e,k0,k1,k2,k3,k4,k5⟩:=Y;obtain⟨rfl,rfl,rfl⟩:=bK e;simp only[et,ec,gT,zd,pR,bne_iff_ne,vz,ou] at h;obtain⟨h1,h2⟩:=h;exact Ky hR s G x1 id (by omega) (kS hR h1) (fe h2) aN b0 b1 b2 b3 b4 b5 k0 k1 k2 k3 k4 k5
 case claim G x1=>
  obtain⟨b0,b1,b2,b3,b4,e,k0,k1,k2,k3,k4⟩:=Y;obtain⟨rfl,rfl,rfl⟩:=bK e;simp only[et,ec,gT,zd,pR,bne_iff_ne,vz,ou] at h;obtain⟨⟨⟨⟨⟨h1,h2⟩,h3⟩,h4⟩,h5⟩,h6⟩:=h;exact N7 hR s t ht c hc hmp G x1 (fT h1) h2 h3 h4 h5 (jC hR.nt h6) aN b0 b1 b2 b3 b4 k0 k1 k2 k3 k4
 case fresh G=>
  obtain⟨b0,b1,b2,b3,e,k0,k1,k2,k3⟩:=Y;obtain⟨rfl,rfl,rfl⟩:=bK e;simp only[et,ec,gT,zd,pR,bne_iff_ne,vz,ou] at h;obtain⟨⟨h1,h2⟩,h3⟩:=h;exact Nv hR s c hc G (nN h1) h2 hmp (jC hR.nt h3) aN b0 b1 b2 b3 k0 k1 k2 k3
 case next G hd at_=>
  obtain⟨b0,b1,b2,b3,b4,b5,e,k0,k1,k2,k3,k4,k5⟩:=Y;obtain⟨rfl,rfl,rfl⟩:=bK e;simp only[et,ec,gT,zd,pR,bne_iff_ne,vz,ou] at h;obtain⟨⟨h1,h2⟩,h3⟩:=h;exact Qj hR s c hc G hd at_ (nN h1) (fT h2) hmp (jC hR.nt h3) aN b0 b1 b2 b3 b4 b5 k0 k1 k2 k3 k4 k5
 case free G hd at_=>
  obtain⟨b0,b1,b2,b3,b4,b5,e,k0,k1,k2,k3,k4,k5⟩:=Y;obtain⟨rfl,rfl,rfl⟩:=bK e;simp only[et,ec,gT,zd,pR,bne_iff_ne,vz,ou] at h;obtain⟨⟨⟨h1,h2⟩,h3⟩,h4⟩:=h;exact QQ hR s t ht G hd at_ (nN h1) (fT h2) (jC hR.nt h3) (fe h4) aN b0 b1 b2 b3 b4 b5 k0 k1 k2 k3 k4 k5
 case dX G hd at_ id=>
  obtain⟨b0,b1,b2,b3,b4,b5,e,k0,k1,k2,k3,k4,k5⟩:=Y;obtain⟨rfl,rfl,rfl⟩:=bK e;simp only[et,ec,gT,zd,pR,bne_iff_ne,vz,ou] at h;obtain⟨⟨⟨h1,h2⟩,h3⟩,h4⟩:=h;exact IA hR s t ht G hd at_ id (nN h1) (by omega) (kS hR h2) (fe h3) (jC hR.nt h4) aN b0 b1 b2 b3 b4 b5 k0 k1 k2 k3 k4 k5
 case fJ x G hd=>
  obtain⟨b0,b1,b2,b3,b4,b5,e,k0,k1,k2,k3,k4,k5⟩:=Y;obtain⟨rfl,rfl,rfl⟩:=bK e;simp only[et,ec,gT,zd,pR,bne_iff_ne,vz,ou] at h;obtain⟨⟨h1,h2⟩,h3⟩:=h;exact Ns hR s t ht b0 b1 b2 b3 b4 b5 x G hd k0 k1 k2 k3 k4 k5 aN (fT h1) h2 h3
 case eU x G hd=>
  obtain⟨b0,b1,b2,b3,b4,b5,e,k0,k1,k2,k3,k4,k5⟩:=Y;obtain⟨rfl,rfl,rfl⟩:=bK e;exact NY hR s t ht x G hd aN (fT h) b0 b1 b2 b3 b4 b5 k0 k1 k2 k3 k4 k5
 case push G hd=>
  obtain⟨b0,b1,b2,b3,b4,e,k0,k1,k2,k3,k4⟩:=Y;obtain⟨rfl,rfl,rfl⟩:=bK e;exact Qi hR s t ht b0 b1 b2 b3 b4 G hd k0 k1 k2 k3 k4 aN (fT h)
 case dV G hd=>
  obtain⟨b0,b1,b2,b3,b4,e,k0,k1,k2,k3,k4⟩:=Y;obtain⟨rfl,rfl,rfl⟩:=bK e;simp only[et,ec,gT,zd,pR,bne_iff_ne,vz,ou] at h;obtain⟨⟨h1,h2⟩,h3⟩:=h;exact NZ hR s t ht c hc G hd h1 h2 h3 aN b0 b1 b2 b3 b4 k0 k1 k2 k3 k4
 case over G=>
  obtain⟨b0,b1,b2,b3,b4,e,k0,k1,k2,k3,k4⟩:=Y;obtain⟨rfl,rfl,rfl⟩:=bK e;simp only[et,ec,gT,zd,pR,bne_iff_ne,vz,ou] at h;exact QF hR s c hc G h aN b0 b1 b2 b3 b4 k0 k1 k2 k3 k4
 case iB G hd=>
  obtain⟨b0,b1,b2,b3,b4,b5,e,k0,k1,k2,k3,k4,k5⟩:=Y;obtain⟨rfl,rfl,rfl⟩:=bK e;exact Nt hR s t ht b0 b1 b2 b3 b4 b5 G hd k0 k1 k2 k3 k4 k5 aN (fT h)
 case eu G hd=>
  obtain⟨b0,b1,b2,b3,b4,b5,e,k0,k1,k2,k3,k4,k5⟩:=Y;obtain⟨rfl,rfl,rfl⟩:=bK e;simp only[et,ec,gT,zd,pR,bne_iff_ne,vz,ou] at h;obtain⟨h1,x,hx⟩:=h;exact N9 hR s t ht c hc G hd h1 x hx aN b0 b1 b2 b3 b4 b5 k0 k1 k2 k3 k4 k5
 case draw=>
  obtain⟨b0,b1,b2,e,k0,k1,k2⟩:=Y;obtain⟨rfl,rfl,rfl⟩:=bK e;simp only[et,ec,gT,zd,pR,bne_iff_ne,vz,ou] at h;exact QI hR s h aN b0 b1 b2 k0 k1 k2
 case eX x now=>
  obtain⟨b0,b1,b2,e,k0,k1,k2⟩:=Y;obtain⟨rfl,rfl,rfl⟩:=bK e;simp only[et,ec,gT,zd,pR,bne_iff_ne,vz,ou] at h;obtain⟨h1,h2⟩:=h;exact Oa hR s x now h1 h2 aN b0 b1 b2 k0 k1 k2
 case turn x now=>
  obtain⟨b0,b1,b2,b3,b4,e,k0,k1,k2,k3,k4⟩:=Y;obtain⟨rfl,rfl,rfl⟩:=bK e;simp only[et,ec,gT,zd,pR,bne_iff_ne,vz,ou] at h;obtain⟨⟨h1,h2⟩,h3⟩:=h;exact QJ hR s t ht x now h1 h2 h3 aN b0 b1 b2 b3 b4 k0 k1 k2 k3 k4
 case eB=>
  obtain⟨b0,b1,b2,e,k0,k1,k2⟩:=Y;obtain⟨rfl,rfl,rfl⟩:=bK e;simp only[et,ec,gT,zd,pR,bne_iff_ne,vz,ou] at h;obtain⟨⟨h1,h2⟩,h3⟩:=h;exact NS hR s t ht h1 h2 h3 aN b0 b1 b2 k0 k1 k2
 case wait i=>
  obtain⟨b0,b1,b2,b3,b4,e,k0,k1,k2,k3,k4⟩:=Y;obtain⟨rfl,rfl,rfl⟩:=bK e;simp only[et,ec,gT,zd,pR,bne_iff_ne,vz,ou] at h
  cases Z:t.aR[i]? with
  |none=>rw[Z] at h;cases h
  |some bd=>
  rw[Z] at h;simp only[gT,zd] at h;obtain⟨⟨h1,h2⟩,h3⟩:=h;exact QH hR s t ht c hc i bd Z h3 (by omega) (kS hR h1) (fe h2) aN b0 b1 b2 b3 b4 k0 k1 k2 k3 k4
 case cZ=>
  obtain⟨b0,b1,b2,e,k0,k1,k2⟩:=Y;obtain⟨rfl,rfl,rfl⟩:=bK e;simp only[et,ec,gT,zd,pR,bne_iff_ne,vz,ou] at h;obtain⟨⟨⟨⟨h1,h2⟩,h3⟩,h4⟩,h5⟩:=h;exact Kq hR s t ht hmt h1 h2 h3 (wO h4) h5 aN b0 b1 b2 k0 k1 k2
 case abort er re=>
  obtain⟨b0,b1,b2,b3,b4,e,k0,k1,k2,k3,k4⟩:=Y;obtain⟨rfl,rfl,rfl⟩:=bK e;simp only[et,ec,gT,zd,pR,bne_iff_ne,vz,ou] at h;obtain⟨⟨⟨⟨⟨h1,h2⟩,h3⟩,h4⟩,h5⟩,h6⟩:=h;exact Ot hR s t ht hmt er re h1 h2 h3 h4 (wO h5) h6 aN b0 b1 b2 b3 b4 k0 k1 k2 k3 k4
 case turns l r=>
  cases l with
  |nil=>
   obtain⟨b0,b1,b2,b3,e,k0,k1,k2,k3⟩:=Y;obtain⟨rfl,rfl,rfl⟩:=bK e;exact Kn hR s t ht c hc r hs aN b0 b1 b2 b3 k0 k1 k2 k3
  |cons x l=>
   obtain⟨b0,b1,b2,b3,b4,e,k0,k1,k2,k3,k4⟩:=Y;obtain⟨rfl,rfl,rfl⟩:=bK e;simp only[zd] at h;exact Ko hR s c hc x l r h aN b0 b1 b2 b3 b4 k0 k1 k2 k3 k4
def nO (D:St) (s:Nat):Bool:=match (D.c s).op.kind with
 |6=>true
 |7=>true
 |1=>match (D.t s).cell (D.c s).op.F with|none=>true|some x=>!x.there||vl D x.own
 |5=>decide ((D.c s).op.F<=63)&&decide ((D.c s).op.hi<=63)&&uh D (D.t s)&&decide ((D.c s).r.aL.length<90000)
 |2=>qI D s
 |3=>qI D s
 |4=>qI D s
 |_=>false
where qI (D:St) (s:Nat):Bool:=match (D.t s).cell (D.c s).op.F with|none=>true|some _=>decide (1<=(D.t s).id)&&decide ((D.t s).id<=65535)&&lH D
theorem Ha {D:St} {s:Nat} {t:bL} (ht:D.ai.getD s none=some t) {c:dY} (hc:D.calls.getD s none=some c) (h:nO D s=true):AO D s:=by
 intro A w hR hmp;have et:=cK ht;have ec:=bC hc;unfold nO nO.qI at h;rw[et,ec] at h;have hret:∀ r,∀ e E,bG A w s r e E->∃ v,e=.returned v:=fun r e E ⟨_,v,hv,_⟩=>⟨v,hv⟩
 refine CE hR s c hc _ (fun Y=>?_) (fun Y=>?_) (fun Y=>?_) (fun Y=>?_) (fun k1 k5 k6 k7=>?_) (hret _)
 . rw[Y] at h
   simp only at h
   cases hx:t.cell c.op.F with
   |none=>
    have e:D.first s=(D,.start ⟨c.op.F,t.aJ,.get⟩):=by unfold St.first;rw[ec,et];simp only[Y,hx]
    rw[e];exact get_none hR s t ht c hc hx
   |some x=>
    rw[hx] at h;have e:D.first s=(D,if x.there then .fin {value:=D.valueOf x.own} else .fin {e:=11}):=by unfold St.first;rw[ec,et];simp only[Y,hx]
    rw[e]
    cases hth:x.there with
    |true=>
     simp only[hth,Bool.not_true,Bool.false_or] at h;rw[aW rfl];exact IM hR s t ht c hc x hx hth (fT h)
    |false=>
     rw[bu (by decide)];exact Kz hR s t ht c hc x hx hth
 . rw[Y] at h
   simp only[gT,zd] at h;obtain⟨⟨⟨h1,h2⟩,h3⟩,h4⟩:=h;have e:D.first s=D.scan s c.op.F:=by unfold St.first;rw[ec];simp only[Y]
   rw[e];exact wL hR s t ht c hc c.op.F (by omega) h2 (wP h3) (by omega)
 . have e:D.first s=(D,.draw):=by unfold St.first;rw[ec];simp only[Y]
   rw[e];exact Cm hR s
 . have e:D.first s=(D,.abort 0 1):=by unfold St.first;rw[ec];simp only[Y]
   rw[e];exact jM hR s 0 1
 . have hx:(match t.cell c.op.F with|none=>true|some _=>decide (1<=t.id)&&decide (t.id<=65535)&&lH D)=true∧(c.op.kind=2∨c.op.kind=3∨c.op.kind=4):=by
    split at h
    . omega
    . omega
    . omega
    . omega
    . rename_i Y;exact⟨h,.inl Y⟩
    . rename_i Y;exact⟨h,.inr (.inl Y)⟩
    . rename_i Y;exact⟨h,.inr (.inr Y)⟩
    . cases h
   obtain⟨hx1,hkk⟩:=hx
   cases hx:t.cell c.op.F with
   |none=>
    have e:D.first s=(D,.start ⟨c.op.F,t.aJ,.change⟩):=by
     rcases hkk with Y|Y|Y<;>(unfold St.first;rw[ec,et];simp only[Y,hx])
    rw[e];exact CB hR s t ht c hc hx
   |some x=>
    rw[hx] at hx1;simp only[gT,zd] at hx1;have e:D.first s=rE D s t x c.op.kind:=by
     rcases hkk with Y|Y|Y<;>(unfold St.first rE;rw[ec,et];simp only[Y,hx])
    rw[e];exact Dq hR s t ht c hc hmp x hx hx1.1.1 hx1.1.2 (jC hR.nt hx1.2)
def jV (D aK:St) (s:Nat):Bool:=decide (D.calls.length=8)&&decide (aK.calls.length=8)&&(List.range 8).all fun q=>q==s||decide (aK.calls.getD q none=D.calls.getD q none)
theorem sQ {D aK:St} {s:Nat} (h:jV D aK s=true):∀ q,q≠s->aK.calls.getD q none=D.calls.getD q none:=by
 intro q hq;unfold jV at h;simp only[gT,zd,List.all_eq_true,List.mem_range,pR,beq_iff_eq] at h
 by_cases h8:q<8
 . exact (h.2 q h8).resolve_left hq
 . simp[mM,q9 (show aK.calls.length<=q by omega),q9 (show D.calls.length<=q by omega)]
def lJ (D:St) (s:Nat) (aK:St) (ok:Option K) (c2:dY):Option (St×Nat×mo):=
 match ok with
 |some k'=>if c2.over=false then some ({aK.aM s {c2 with k:=some k'} with aA:=aK.aA+(aK.count - D.count)},if c2.waits then 2 else 1,{}) else none
 |none=>
  if c2.waits=false∧c2.over=true∧c2.r.aL.length<=1000000 then
   if c2.r.over=0 then
    match aK.ai.getD s none with
    |some t2=>if aK.aQ.length<1000000 then some (({aK.aM s {c2 with k:=none} with aA:=aK.aA+(aK.count - D.count),calls:=(aK.aM s {c2 with k:=none}).calls.set s none}:St).event {kind:=2,t:=t2.id,op:=c2.op,res:=c2.r},3,c2.r) else none
    |none=>none
   else if c2.r.aL=[] then some ({aK.aM s {c2 with k:=none} with aA:=aK.aA+(aK.count - D.count),calls:=(aK.aM s {c2 with k:=none}).calls.set s none,ai:=aK.ai.set s none},3,c2.r) else none
  else none
def ig (D:St) (s:Nat):Option (St×Nat×mo):=
 match D.ai.getD s none,D.calls.getD s none with
 |some t,some c=>
  match c.k with
  |some k=>
   match (D.aM s {c with waits:=false}).run s k with
   |(aK,ok)=>
    match aK.calls.getD s none with
    |some c2=>
     if QT (D.aM s {c with waits:=false}) s k=true∧jV D aK s=true∧D.count<=aK.count∧aK.count - D.count<1000000∧aK.aA<1000000000000000000∧D.count<3000000000000000000 then lJ D s aK ok c2 else none
    |none=>none
  |none=>none
 |_,_=>none
theorem Fy {A:az} {D:St} {w:World} (hL:Live A D w) {s:Nat} (hs:s<8) {bF:St} {kd:Nat} {r:mo} (h:ig D s=some (bF,kd,r)):
 zk 34 #[R A.V 0,I s] w (Stepped A w bF (kd:Int) r):=by
 unfold ig at h
 split at h
 . rename_i t c ht hc
   split at h
   . rename_i k Y
     split at h
     rename_i aK ok aU
     split at h
     . rename_i c2 hc2
       split at h
       . rename_i hh
         obtain⟨h1,h2,h3,h4,h5,h6⟩:=hh;have hc1:(D.aM s {c with waits:=false}).calls.getD s none=some {c with waits:=false}:=by rw[di (bR hc),aW rfl]
         have VN:=QU hs (D:=D.aM s {c with waits:=false}) (t:=t) ht hc1 k h1;have hdl:aK.count=D.count+(aK.count - D.count):=by omega
         have hcq:=sQ h2;unfold lJ at h
         cases ok with
         |some k'=>
          simp only at h
          split at h
          . rename_i hov
            simp only[Option.some.injEq,jw] at h;obtain⟨rfl,rfl,rfl⟩:=h;have:=NL hL s hs t ht c hc k Y h6 aK _ aU VN c2 hc2 _ hdl h4 h5 hcq k' rfl hov
            cases hw:c2.waits<;>(rw[hw] at this;simpa [hw] using this)
          . cases h
         |none=>
          simp only at h
          split at h
          . rename_i hh
            obtain⟨hw,hov,hpr⟩:=hh
            split at h
            . rename_i hro
              split at h
              . rename_i t2 ht2
                split at h
                . rename_i htl
                  simp only[Option.some.injEq,jw] at h;obtain⟨rfl,rfl,rfl⟩:=h;exact E8 hL s hs t ht c hc k Y h6 aK _ aU VN c2 hc2 _ hdl h4 h5 hcq t2 ht2 htl rfl hw hov hpr hro
                . cases h
              . cases h
            . rename_i hro
              split at h
              . rename_i hpe
                simp only[Option.some.injEq,jw] at h;obtain⟨rfl,rfl,rfl⟩:=h;exact qG hL s hs t ht c hc k Y h6 aK _ aU VN c2 hc2 _ hdl h4 h5 hcq rfl hw hov hpe hro
              . cases h
          . cases h
       . cases h
     . cases h
   . cases h
 . cases h
variable {A:az} {D:St} {w:World}
theorem Live.world {A:az} {D:St} {w E:World} (hL:Live A D w) (r:aF A D E) (g:Grow A.L w A.L E):Live A D E:=
 ⟨r,hL.mp,hL.mt,fun s h c hc=>let ⟨e1,k,e2,e3⟩:=hL.call s h c hc;⟨e1,k,e2,e3.grow g⟩,hL.idle,hL.sx.keep rfl ⟨rfl,rfl⟩ g⟩
theorem Live.alloc (hL:Live A D w) (o:Obj):Live A D (w.alloc o):=hL.world (hL.rep.alloc _) (Grow.alloc _ _ _)
theorem Live.below {A:az} {D:St} {w E:World} (hL:Live A D w) (h:Below w.heap.size w E):Live A D E:=hL.world (hL.rep.below h) (Grow.below h)
theorem Live.o5 (hL:Live A D w) (o:Obj):Live (A.tmp w.heap.size) D (w.alloc o):=
 let ⟨r,g,_,_⟩:=hL.rep.o5 o
 ⟨r,hL.mp,hL.mt,fun s h c hc=>let ⟨e1,k,e2,e3⟩:=hL.call s h c hc;⟨e1,k,e2,(show nY (kp A D s) (A.tmp w.heap.size).L (w.alloc o) (A.bE s) k from e3.grow g)⟩,hL.idle,hL.sx.keep rfl ⟨rfl,rfl⟩ g⟩
theorem Live.but {A:az} {D:St} {w E:World} {b:Nat} (hL:Live A D w) (hl:A.L b=some .tmp) (h:But b w E):Live A D E:=
 ⟨hL.rep.but hl h,hL.mp,hL.mt,fun s hs c hc=>let ⟨e1,k,e2,e3⟩:=hL.call s hs c hc;⟨e1,k,e2,e3.soft (h.soft hl)⟩,hL.idle,hL.sx.soft rfl (h.soft hl)⟩
def OA (D:St) (s:Nat) (o:En.Op) (aC:St) (err:Nat):Prop:=∀ A w,Live A D w->zk 33 #[R A.V 0,I s,.agg #[I o.kind,I o.F,I o.hi,I o.value]] w (EZ A w aC (err:Int))
theorem zy {L:eH} {w:World} {size:Nat} {v:Value} {xs:List Value} (h:iJ L w size v xs):∃ a n cap,v=.slice a n cap:=let ⟨a,n,cap,e,_⟩:=h;⟨a,n,cap,e⟩
theorem below_drewN (w:World) (n:Nat):Below w.heap.size w (w.drewN n):=⟨rfl,rfl,rfl,zr _,fun _ _=>rfl⟩
theorem OB (hR:aF A D w) (hx:D.word 0<18446744073709551616):zk 19 #[R A.V 0] w fun e E=>e=.returned (zu (D.now:Int))∧Below w.heap.size w E:=by
 have c2:w.cell? (J A.V 2)=zs A.ba 0:=hR.bT 2 rfl;have HP:=U (vS hR 0 (by rw[hR.nw];omega));have HD:=U (jI (D.word 0) hx);clear hR hx;go_enter Tryz.func19,Tryz.ntmps19;go_wp2_with (first|(go_at_call 58;refine HP.out.mono ?_;rintro e E ⟨rfl,n,rfl⟩)|(go_at_call 43;refine (HD.out _).mono ?_;rintro e E ⟨rfl,rfl⟩));go_ret;exact⟨rfl,below_drewN _ _⟩
theorem IY (hR:aF A D w):zk 56 #[R A.V 0] w fun e E=>e=.returned (I (D.aA:Int))∧w=E:=by
 have c2:w.cell? (J A.V 23)=zt (D.aA:Int):=hR.bT 23 rfl;clear hR;go_enter Tryz.func56,Tryz.ntmps56;go_wp2;go_ret;exact⟨rfl,rfl⟩
theorem KJ (hR:aF A D w) (x:Nat) (hx:x<18446744073709551616) (h2:(rd x).1=2->(rd x).2<=65535∧D.place (rd x).2<D.words.length∧D.word (D.place (rd x).2)<18446744073709551616):
 zk 86 #[R A.V 0,zu x] w fun e E=>e=.returned (.bool (D.done x))∧Below w.heap.size w E:=by
 obtain⟨k1,k2⟩:=Av x;have hrd:=Word.mW (x:Int) (by omega) (by omega) w;rw[k1,k2] at hrd;have zl:=U hrd;have HW:Hid (∀ H w2,Below w.heap.size w H->w2=H.alloc (.cells #[I ((rd x).1:Int),zu ((rd x).2:Int)] 217)->Below w.heap.size w w2∧aF A D w2∧∀ E,Below w2.heap.size w2 E->zS E A.V 2 A.ba 0∧zV E H.heap.size 1 ((rd x).2:Int)):=by
  rintro H w2 Z rfl;have r1:=(hR.below Z).alloc (.cells #[I ((rd x).1:Int),zu ((rd x).2:Int)] 217);have f:=fA (hR.below Z).mem.fresh (.cells #[I ((rd x).1:Int),zu ((rd x).2:Int)] 217) rfl;exact⟨Z.alloc Z.size _,r1,fun E hb'=>⟨(r1.below hb').bT 2 rfl,(f.grow (Grow.below hb')).cell 1 rfl⟩⟩
 have hd:D.done x=((rd x).1==1||((rd x).1==2&&bA (D.word (D.place (rd x).2))==3)):=rfl;have hkind:(rd x).1=0∨(rd x).1=1∨(rd x).1=2∨(rd x).1=3:=by unfold rd;split<;>(try split)<;>(try split)<;>simp
 clear hrd k1 k2;generalize (rd x).2=n at*;generalize Y:(rd x).1=kd at*;clear Y
 rcases hkind with rfl|rfl|rfl|rfl
 . rw[hd]
   clear hd h2 hR;go_enter Tryz.func86,Tryz.ntmps86;go_wp2_with (first|(go_at_call 108;refine zl.out.mono ?_;rintro e H ⟨rfl,Z⟩;obtain⟨hb2,hr2,hc2⟩:=HW.out H _ Z rfl;have HB2:=U hb2;clear hb2 hr2 hc2));go_ret;exact⟨rfl,HB2.out⟩
 . rw[hd]
   clear hd h2 hR;go_enter Tryz.func86,Tryz.ntmps86;go_wp2_with (first|(go_at_call 108;refine zl.out.mono ?_;rintro e H ⟨rfl,Z⟩;obtain⟨hb2,hr2,hc2⟩:=HW.out H _ Z rfl;have HB2:=U hb2;clear hb2 hr2 hc2));go_ret;exact⟨rfl,HB2.out⟩
 . rw[hd]
   obtain⟨m1,m2,m3⟩:=h2 rfl;clear hd h2 hR;have n1:IntKind.i64.wrap (n:Int)=(n:Int):=by rw[je];omega
   have HU:=U (fun E=>iX (D.word (D.place n)) m3 E);go_enter Tryz.func86,Tryz.ntmps86;go_wp2_with (first|(go_at_call 108;refine zl.out.mono ?_;rintro e H ⟨rfl,Z⟩;obtain⟨hb2,hr2,hc2⟩:=HW.out H _ Z rfl;have HB2:=U hb2;clear hb2));generalize hw2:H.alloc _=w2 at*;obtain⟨c2,c1⟩:=hc2 w2 (Below.refl _ _);have HC:=U hc2;have YA:=U (eY hr2.drew n m1);have YB:=U (vS hr2.drew (D.place n) m2);clear hc2 hr2 m1 m2 m3 hw2
   go_region_held3 (fun E=>zS E A.V 2 A.ba 0∧zV E H.heap.size 1 n)
    (first|exact⟨c2,c1⟩|assumption|exact HC.out _ (by assumption))
    (first|(go_at_call 48;refine YA.out.mono ?_;rintro e E ⟨rfl,rfl⟩)|(go_at_call 58;refine YB.out.mono ?_;rintro e w3 ⟨rfl,nn,hw3⟩;have hb3:Below w2.heap.size w2 w3:=(by rw[hw3];exact⟨rfl,rfl,rfl,zr _,fun _ _=>rfl⟩);clear hw3)|(go_at_call 109;refine (HU.out _).mono ?_;rintro e E ⟨rfl,rfl⟩))
   go_wp2_with fail;go_ret;refine⟨?_,HB2.out.trans (hb3.mono HB2.out.size)⟩;generalize bA (D.word (D.place n))=q;have e:(((q:Nat):Int)==3)=(q==3):=by rw[Bool.eq_iff_iff];simp;omega
   show Ending.returned (.bool (((q:Nat):Int)==3))=Ending.returned (.bool ((2==1||(2==2&&q==3))));rw[e];rfl
 . rw[hd]
   clear hd h2 hR;go_enter Tryz.func86,Tryz.ntmps86;go_wp2_with (first|(go_at_call 108;refine zl.out.mono ?_;rintro e H ⟨rfl,Z⟩;obtain⟨hb2,hr2,hc2⟩:=HW.out H _ Z rfl;have HB2:=U hb2;clear hb2 hr2 hc2));go_ret;exact⟨rfl,HB2.out⟩
end Go.Proofs.YthicolbbmjfkfaaGreat.Em
