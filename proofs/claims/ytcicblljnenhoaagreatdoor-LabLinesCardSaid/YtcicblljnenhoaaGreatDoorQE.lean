/- A part of the proof of LabLines. -/
import Derived.Test.YtcicblljnenhoaaGreatDoorQD
open Bool renaming false_and->ab6,false_eq_true->bY
open Go.Instr renaming checkKey->gv
open Go.IntKind renaming bits->gy,i64->dV,signed->iW,u64->cN,u8->cC,wrap->ic
open Go.Lib renaming countByte->bP,decDigits->gT,fields->iG,fieldsGo->ab8,indexByte->cE,itoa->gK,itoa_length_le->dG,nDigits->fQ
open List renaming Perm.cons->fS,Perm.swap->eu,all_eq_true->ef,append_assoc->bT,append_nil->ah,cons_append->ae,drop_eq_getElem_cons->aP,drop_of_length_le->bc,ext_getElem?->dP,filterMap_cons->eI,findIdx?_eq_some_iff_getElem->bA,flatMap_cons->eQ,foldl_cons->cY,getElem?_eq_getElem->aV,getElem?_map->dO,getElem_map->ft,getElem_mem->aB,length->dq,length_append->aG,length_cons->ax,length_filter_le->dD,length_map->aA,length_nil->aR,length_pos_iff->fy,length_set->gB,length_take->cB,map_append->cq,map_congr_left->bQ,map_cons->aK,map_map->cz,map_nil->ie,map_set->eZ,mem_append->cM,mem_cons->bK,mem_filter->dZ,mem_map->bj,mem_of_find?_eq_some->Y,mem_singleton->bD,nil_append->ai,nodup_append->eP,nodup_cons->gA,perm_append_comm->cG,perm_middle->ee,replicate->bI,sum_cons->eC,take_add_one->aY,take_append_drop->cP,take_length->bh,take_of_length_le->aD,take_succ_eq_append_getElem->dd
open Nat renaming add_mul->fP,blt->aH,le_add_right->aT,le_of_ble_eq_true->aI,le_refl->ar,le_succ->gk,le_trans->aj,mul_le_mul_right->cX,zero_add->aQ,zero_le->al
open Option renaming getD_some->bX,map_eq_some_iff->bk,map_some->bH,some.injEq->fF
open Go.Result renaming andThen_ok->aC
open Go.Sem renaming run->fo,run_bind->aU
open Go.Proofs.Tryz renaming prog->ab,underlying87->eO,underlying9->cO
open UInt32 renaming toNat_inj->dM
open UInt64 renaming ofNat->fE,toNat_inj->gL
open UInt8 renaming ofNat->cu,toNat_inj->aa2
open Go.Value renaming agg->gn,int->eL
open Go.World renaming cell?->gj
set_option linter.all false
set_option maxHeartbeats 4000000
namespace Go.Proofs
open Go.Sl
set_option maxRecDepth 8000
section
variable{F:List az}{B:Nat}{k:Bs}(l:List nD)(i:Nat)(G:bZ)(a:Option Addr)(n c:Nat)(q:List nN)
theorem X9(fc:Nat)[CF ab fc](cap:List Value)(A:List az)[hA:rP [cV A]](p:Rec->Bool)(a:Option Addr)(n c:Nat)(xs:List Rec)(hn:xs.length=n)(hs:n<=1099511627776)(hc:∀x∈xs,TR ab G fc (([]:List Value)++[gn (Rec.cs x).toArray]++cap).toArray [cV A] (cb λv B=>v=.bool (p x)/\B=[cV A])):
 TR ab G 335 #[.slice a n c,.func (.func fc) #[] cap.toArray] [own 151 4 a n c (xs.flatMap Rec.cs),cV A]
  (cb λv B=>v=.slice a (xs.filter λx=> !p x).length c/\B=[own 151 4 a (xs.filter λx=> !p x).length c ((xs.filter λx=> !p x).flatMap Rec.cs),cV A]):=by
 subst hn
 refine aW U λb β hb hG=>?_
 have sD:=u0 p xs 0
 refine xS ?_
 refine bw (mf (e:=151) (c:=c) (X8 G fc cap A p a _ c xs U hs hc) bE U (λ_=>rfl)) ?_
 rintro v B ⟨_,⟨rfl,rfl⟩,rfl⟩
 dsimp only[ae,ai,ah]
 generalize cy p 0 xs=J at*
 refine xB ?_ ?_<;>intro h
 ·exact bE4
 ·have h:¬J= -1:=by grind
  obtain⟨j0,hj0,rfl,hf0⟩:=sD.resolve_left λh2=>h h2.1;rw[aQ]at*;refine gV a av λg hg=>?_;subst hg;refine xS ?_;refine eT [0,1] [0] (ι:={z:Nat×Nat×List Rec // F4 p xs z.1 z.2.1 z.2.2}) (λz q_=>(5,.int .i64 (z.1.1:Int))::(6,.int .i64 (z.1.2.1:Int))::q_) (λz q_=>own 151 4 (some ⟨g,0,none⟩) xs.length c (z.1.2.2.flatMap Rec.cs)::q_) (λz=>xs.length - z.1.2.1) ⟨(j0,j0+1,xs),by dsimp only;omega,hj0,U,hf0.symm,U⟩ ?_;rintro⟨⟨i,j,m⟩,hI⟩ ih;dsimp only at hI ih ⊢;refine xB ?_ ?_<;>intro h2
  ·have hj:j<xs.length:=by grind
   have xG:=hI.ij;have hjm:j<m.length:=by rw[hI.len];exact hj
   have Jd:=hI.at hj;have Z':=hc xs[j] (aB hj);have hdr:=hI.drop hj;have PY:=hI.iL hj;rw[<-Jd]at Z' hdr PY;refine xS ?_;refine du (j:=j) U U U U av av (xS ?_);refine gN (bo:=Rec.cs) (l:=m) j U U U U (λ_=>rfl) (aQ _) hjm ?_;generalize m[j]=x at*;refine xA ?_;intro b7;refine gW (fst:=[]) (us:=[gn (Rec.cs x).toArray]) (cap:=cap) hG Z' U U U U aN.es ?_;rintro v B ⟨rfl,rfl⟩;refine xD ?_;refine xB ?_ ?_<;>intro h3
   ·have h3:p x=false:=by grind
    refine xS ?_;refine du (j:=i) U U U U av av (xS ?_);refine nT (bo:=Rec.cs) (l:=m) i x U U U U (λ_=>rfl) (aQ _) av U U (xS ?_);exact Zl
   exact a'9
  ·have Mp:j=xs.length:=by have:=hI.jn;grind
   subst Mp;have xG:=hI.ij;have hlen:=hI.len;have hhd:=hI.hd;rw[bh]at hhd;have hil:(xs.filter λx=> !p x).length=i:=bE;rw[hil,<-hhd];refine ni (some ⟨g,0,none⟩) λ_ oM=>xS ?_;refine CJ (l:=i) (h:=xs.length) U U U (Bd.at U U) Bd.no av av ?_;refine CG (a:=some ⟨g,0,none⟩) (e:=151) (sz:=4) (n:=xs.length) (c:=c) i av ?_;rw[yL (sz:=4) (λ_=>rfl)];exact az2
namespace SM
abbrev T:=nN
abbrev en:T->List Value:=nN.cs
abbrev e0:Nat:=349
abbrev z0:Nat:=5
abbrev f5:Nat:=512
abbrev f4:Nat:=496
abbrev f2:Nat:=471
abbrev f3:Nat:=472
abbrev f1:Nat:=414
abbrev f0:Nat:=330
theorem DJ:WS T en 349 5 512:=by
 intro G cmp a c a0 b0 cn A B C hA hB hC l ha Fg hs
 exact WX
theorem NO:WT T en 349 5 496:=by
 intro G cmp a c a0 m0 b0 A M B hA hM hB l h1 h2 Fg hs
 exact WY
theorem NP:WU T en 349 5 471:=by
 intro G cf fc _ hc a c a0 b0 A B hA hB l Fg ha0 hs
 exact WZ
theorem NQ:WV T en 349 5 472:=by
 intro G cf fc _ hc
 intro f
 induction f with
 |zero=>intro _ _ a0 m0 b0 _ _ _ _ _ _ l h1 h2 _ hf _;exact absurd hf (by omega)
 |succ f IH=>
  intro a c a0 m0 b0 A M B hA hM hB l h1 h2 Fg hf hs
  exact W3
theorem NR:WW T en 349 5 414:=by
 intro G cf fc _ hc a c l hs
 exact W5
theorem GJ:DI T en 349 5 330:=by
 intro G cf fc _ hc a n c l hn hs
 exact DK
end SM
namespace SR
abbrev T:=Rec
abbrev en:T->List Value:=Rec.cs
abbrev e0:Nat:=151
abbrev z0:Nat:=4
abbrev f5:Nat:=513
abbrev f4:Nat:=498
abbrev f2:Nat:=476
abbrev f3:Nat:=477
abbrev f1:Nat:=420
abbrev f0:Nat:=337
theorem DJ:WS T en 151 4 513:=by
 intro G cmp a c a0 b0 cn A B C hA hB hC l ha Fg hs
 exact WX
theorem NO:WT T en 151 4 498:=by
 intro G cmp a c a0 m0 b0 A M B hA hM hB l h1 h2 Fg hs
 exact WY
theorem NP:WU T en 151 4 476:=by
 intro G cf fc _ hc a c a0 b0 A B hA hB l Fg ha0 hs
 exact WZ
theorem NQ:WV T en 151 4 477:=by
 intro G cf fc _ hc
 intro f
 induction f with
 |zero=>intro _ _ a0 m0 b0 _ _ _ _ _ _ l h1 h2 _ hf _;exact absurd hf (by omega)
 |succ f IH=>
  intro a c a0 m0 b0 A M B hA hM hB l h1 h2 Fg hf hs
  exact W3
theorem NR:WW T en 151 4 420:=by
 intro G cf fc _ hc a c l hs
 exact W5
theorem GJ:DI T en 151 4 337:=by
 intro G cf fc _ hc a n c l hn hs
 exact DK
end SR
def cfM(x y:nD):Int:=mY x.no.toNat y.no.toNat
theorem a04(x y:nN):TR ab G 331 #[.agg (nN.cs x).toArray,.agg (nN.cs y).toArray] [] (cT (.int .i64 (cfM x.1 y.1))):=aG6
def cfR(x y:Rec):Int:=mY x.eB.toNat y.eB.toNat
theorem a05(x y:Rec):TR ab G 338 #[.agg (Rec.cs x).toArray,.agg (Rec.cs y).toArray] [] (cT (.int .i64 (cfR x y))):=aG6
theorem S8(x:nN):TR ab G 225 (([]:List Value)++[gn (nN.cs x).toArray]++[]).toArray [cV []] (cb λv B=>v=.bool (!x.1.iP)/\B=[cV []]):=by
 refine cg U λb β hb hG=>?_;refine xP ?_;intro b2;exact xR
instance bn3(x:Int):FJ ab 143 [.int .i64 x] [] (.bool (decide (64<=x)&&decide (x<=1048576))):=⟨λG=>by
 refine cg U λb β hb hG=>?_;refine xT 5 ?_ ?_<;>intro h
 ·exact ad6
 ·refine xS ?_;exact bO hb (.tmps U) ⟨by grind [lx],U⟩⟩
def S9(f:bn):Option nD:=if(bJ f.name).1≠1 then none else some ⟨f,(bJ f.name).2,(fV f.data []).map (·.f.kG),(hintOf f.data).2==0⟩
def u3(l:List bn):List nD:=l.filterMap S9
def u6(l:List bn):List nD:=kf (λx y=>decide (cfM x y<0)) (u3 l)
def Fo(q:List nN):az:=
 ro λr=>∀x∈q,(x.1.iD.data.length<=x.2.1.2/\(x.2.1.1=none->x.1.iD.data.length=0/\x.2.1.2=0)/\vW RB 1 x.2.1.1 x.1.iD.data r)/\vW (bp Rec.cs) 4 x.2.2.1 x.1.qP r
instance EM.Fo(Hs A r F:List az)(q:List nN)[h1:FP Hs (Fo q) r][h2:EM Hs A F]:EM Hs (Fo q::A) F:=⟨EM.iL h1.out h2.out⟩
instance EK.Fo(Hs A r:List az)(q:List nN)[h1:FP Hs (Fo q) r][h2:EK Hs A]:EK Hs (Fo q::A):=EK.ro Hs A r _ (h1:=h1)
section
variable {b:Frame}{β:bS}{k:Kt}{E:Env}{Hs:List az}{R:Ending->List az->Prop}{cc:Option (Array Oper×List Oper)}
theorem av7(x:nN)(hx:x∈q)[hf:FP Hs (Fo q) F](h:x.1.iD.data.length<=x.2.1.2->(x.2.1.1=none->x.1.iD.data.length=0/\x.2.1.2=0)->X ab b β cc k E (bV RB 1 x.2.1.1 x.1.iD.data::bV (bp Rec.cs) 4 x.2.2.1 x.1.qP::Hs) R):X ab b β cc k E Hs R:=by
 refine jo λw hs=>?_
 have h1:=Sat.ro (hs.cd hf.out) x hx
 have h2:aN Hs (bV RB 1 x.2.1.1 x.1.iD.data::bV (bp Rec.cs) 4 x.2.2.1 x.1.qP::Hs):=aM7
 exact⟨_,hs.cd h2,h h1.1.1 h1.1.2.1⟩
theorem av2(q':List nN)(hq:∀y∈q',y∈q)[hf:FP Hs (Fo q) F](h:X ab b β cc k E (Fo q'::Hs) R):X ab b β cc k E Hs R:=
 X.cd (il hf.out λr hr y hy=>hr y (hq y hy)) h
theorem bb7(h:X ab b β cc k E (Fo []::Hs) R):X ab b β cc k E Hs R:=
 X.cd (Hs':=Fo []::Hs) (λ_ o hs=>⟨fL,o,cR _,cJ _,.refl _,λ_ _ x hx=>ua,hs⟩) h
theorem bc6(y:nN)(h1:y.1.iD.data.length<=y.2.1.2)(h2:y.2.1.1=none->y.1.iD.data.length=0/\y.2.1.2=0){F1 F2:List az}[hf:FP Hs (Fo q) F][hf1:FP Hs (bV RB 1 y.2.1.1 y.1.iD.data) F1][JN:FP Hs (bV (bp Rec.cs) 4 y.2.2.1 y.1.qP) F2](h:X ab b β cc k E (Fo (q++[y])::Hs) R):X ab b β cc k E Hs R:=by
 refine X.cd ?_ h
 intro r o hh
 obtain⟨_,_,_,_,_,hp0,_⟩:=hf.out r o hh
 obtain⟨_,_,_,_,_,kL,_⟩:=hf1.out r o hh
 obtain⟨_,_,_,_,_,tK,_⟩:=JN.out r o hh
 refine⟨fL,o,cR _,cJ _,.refl _,λr' nG x hx=>?_,hh⟩
 rcases cM.1 hx with hx|hx
 ·exact hp0 r' nG x hx
 ·exact aO2
end
theorem Oz{p:Bs×Int}{v:Value}{B:List az}(h:V4 p v B):∃a n c,v=.tuple #[.slice a n c,.int .i64 p.2]:=by
 rcases h with⟨h1,a,c,rfl,_⟩|⟨_,rfl,_⟩;all_goals simp_all
theorem X'(xs:Bs)(hn:xs.length=n)(oM:n<=c)(hs:n<=1000000000):
 TR ab G 329 #[.slice a n c] [bV RB 1 a xs] (cb λv B=>(∃a n c,v=.tuple #[.slice a n c,.int .i64 (hintOf xs).2])/\B=[]):=by
 refine(Ia G a n c xs hn oM hs).dH (aN.refl _) ?_
 rintro e B hB
 cases e with
 |panicked ch=>exact hB.elim
 |outgrown=>exact hB.elim
 |returned v=>exact⟨[],⟨Oz hB,U⟩,aN.nil _⟩
theorem Ya(q:List (WB bn))(hn:q.length=n)(hs:n<=1000000000000)(hb:∀x∈q,x.1.name.length<=1000000/\x.1.data.length<=1000000000):
 TR ab GG 221 #[.slice a n c] [bV (bp bG) 2 a q,dz bn.data q] (cb λv B=>∃a6 c6,∃q6:List nN,q6.map (·.1)=u6 (q.map (·.1))/\v=.slice a6 q6.length c6/\B=[own 349 5 a6 q6.length c6 (q6.flatMap nN.cs),Fo q6]):=by
 subst hn
 refine cg U λb β Sj hG=>xS ?_
 refine X.cd (ej 349 5 _) ?_
 refine bb7 ?_
 refine eT [13] [1,0] (ι:={z:Nat×(Option Addr×Nat)×List nN // z.1<=q.length/\z.2.2.map (·.1)=u3 ((q.map (·.1)).take z.1)}) (λz q_=>(3,.slice z.1.2.1.1 z.1.2.2.length z.1.2.1.2)::(14,aX q.length)::(15,aX z.1.1)::q_) (λz q_=>own 349 5 z.1.2.1.1 z.1.2.2.length z.1.2.1.2 (z.1.2.2.flatMap nN.cs)::Fo z.1.2.2::q_) (λz=>q.length - z.1.1) ⟨(0,(none,0),[]),al _,U⟩ ?_
 rintro⟨⟨i,⟨a3,c3⟩,Q⟩,hi,hQ⟩ ih
 dsimp only at hi hQ ih ⊢
 have hQl:Q.length<=q.length:=by
  grind [List.length_filterMap_le,u3]
 refine xB ?_ ?_<;>intro h
 ·have hi:i<q.length:=by grind
  have iq:=aB hi;obtain⟨hb1,Ra⟩:=hb _ iq;have vy:u3 ((q.map (·.1)).take (i+1))=u3 ((q.map (·.1)).take i)++(S9 q[i].1).toList:=by
   grind [u3,aY]
  rw[<-hQ]at vy;refine oI (data:=bn.data) q q[i] iq λjz mD=>xS ?_;refine cH U U U U U hi U λbl o=>?_;generalize q[i]=x at*;have Iy:S9 x.1=if(bJ x.1.name).1≠1 then none else some ⟨x.1,(bJ x.1.name).2,(fV x.1.data []).map (·.f.kG),(hintOf x.1.data).2==0⟩:=U;refine xS ?_;refine dF U U U U  ?_;refine xA ?_;intro b5;refine xJ (mF x.1.name av) ?_;refine xB ?_ ?_<;>intro h1
  ·have h1:(bJ x.1.name).1≠1:=by
    grind
   rw[if_pos h1]at Iy;rw[Iy,Option.toList,ah]at vy;refine xS ?_;exact X.W (ih ⟨(i+1,(a3,c3),Q),by omega,vy.symm⟩ bE)
  have h1:¬(bJ x.1.name).1≠1:=by
   grind
  rw[if_neg h1]at Iy;refine xS ?_;refine ei hG (X' GG x.2.1 _ x.2.2 x.1.data U jz Ra) U U U iv ?_;rintro v B ⟨⟨ha,hn,hc,rfl⟩,rfl⟩;refine xD ?_;refine xA ?_;intro rR;refine jl Int RK 1 ?_;refine ei hG (wN GG x.2.1 _ x.2.2 x.1.data none 0 0 [] U jz Ra U de) U U U iv ?_;rintro v B ⟨a40,c40,rfl,rfl⟩;dsimp only[ae,ai,ah];have sI:(fV x.1.data []).length<=1000000000:=aj (dD _ _) (aj (lS _) Ra);generalize fV x.1.data []=W at*;refine dE a40 rI.cs W U U (λ_=>rfl) λ_=>xS ?_;refine X.cd (ej 151 4 _) ?_;refine eT [3,10,13,14,15,40] [2,3,3,2,0] (ι:={z:Nat×Option Addr×Nat // z.1<=W.length}) (λz q_=>(41,aX W.length)::(42,aX z.1.1)::q_) (λz q_=>bx rR 349 [ao x.1.name,.slice x.2.1 x.1.data.length x.2.2,.int .u32 (bJ x.1.name).2.toNat,.slice z.1.2.1 ((W.take z.1.1).map (·.f.kG)).length z.1.2.2,.bool ((hintOf x.1.data).2==0)]::own 151 4 z.1.2.1 ((W.take z.1.1).map (·.f.kG)).length z.1.2.2 (((W.take z.1.1).map (·.f.kG)).flatMap Rec.cs)::q_) (λz=>W.length - z.1.1) ⟨(0,none,0),al _⟩ ?_;rintro⟨⟨j,a2,c2⟩,hj⟩ pG;dsimp only at hj pG ⊢;refine xB ?_ ?_<;>intro h2
  ·have hj:j<W.length:=by grind
   have htj:(W.take (j+1)).map (·.f.kG)=(W.take j).map (·.f.kG)++[W[j].f.kG]:=NS;have hlj:((W.take j).map (·.f.kG)).length<=1000000000:=bE;generalize(W.take j).map (·.f.kG)=Z at*;refine xS ?_;refine cH U U U U U hj U λVM o2=>?_;generalize W[j]=y at*;refine xS ?_;refine dF U U U U  ?_;refine xA ?_;intro Bl;refine xZ ?_;intro b51;refine eD (y.f.kG) U U U U av U iA iA iA iA iA av λa52 c52=>xS ?_;refine X.less (pG ⟨(j+1,a52,c52),by omega⟩ bE) ?_ ?_
   ·dsimp only;exact aP7
   ·dsimp only;rw[htj];exact ay
  ·have Mp:j=W.length:=by grind
   subst Mp;rw[bh];rw[Iy,Option.toList]at vy;generalize W.map (·.f.kG)=rs at*;refine dE a2 Rec.cs rs U U (λ_=>rfl) λ_=>?_;refine xZ ?_;intro b57;refine eD (((⟨x.1,(bJ x.1.name).2,rs,(hintOf x.1.data).2==0⟩,x.2,(a2,c2)):nN)) U U U U av U iA iA iA iA iA av λa58 c58=>xS ?_;refine bc6 Q ((⟨x.1,(bJ x.1.name).2,rs,(hintOf x.1.data).2==0⟩,x.2,(a2,c2)):nN) jz mD ?_;have HU:(Q++[((⟨x.1,(bJ x.1.name).2,rs,(hintOf x.1.data).2==0⟩,x.2,(a2,c2)):nN)]).map (·.1)=u3 ((q.map (·.1)).take (i+1)):=bE;exact X.W (ih ⟨(i+1,(a58,c58),Q++[((⟨x.1,(bJ x.1.name).2,rs,(hintOf x.1.data).2==0⟩,x.2,(a2,c2)):nN)]),by omega,HU⟩ bE)
 have fw:i=q.length:=bE
 subst fw
 rw[aD nH]at hQ
 refine xO (SM.GJ GG (λx y=>cfM x.1 y.1) 331 (λx y=>a04 GG x y) a3 _ c3 Q U av) ?_
 refine av2 Q (kf (λx y=>decide (cfM x.1 y.1<0)) Q) (λy hy=>(iT _ _).mem_iff.1 hy) ?_
 exact X.ret Sj (.tmps U) ⟨_,⟨a3,c3,kf (λx y=>decide (cfM x.1 y.1<0)) Q,by rw[DG (λx:nN=>x.1) (λx y:nD=>decide (cfM x y<0)),hQ];rfl,by grind [lx,jS],U⟩,by rw[jS];exact ay⟩
@[reducible] def Rec.v(r:Rec):Value:=.agg r.cs.toArray
theorem bn5(p q:Rec):(((p.eB.toNat:Int)==(q.eB.toNat:Int))&&((p.kind==q.kind)&&((p.key==q.key)&&(p.val==q.val))))=(p==q):=by
 obtain⟨a,b,c,d⟩:=p
 obtain⟨a',b',c',d'⟩:=q
 grind [gL]
theorem bn6(p q:Rec)(w:World):(Op.equal 151 (Rec.v p) (Rec.v q)).run ab w=.ok (p==q) w:=by
 unfold Op.equal;have h:=ay4 9998 p.eB.toNat q.eB.toNat p.kind q.kind p.key q.key p.val q.val w;rw[bn5]at h;exact h
theorem Lu(x:Rec):∀(es:List MapEntry) (ks:List Rec) (i:Nat) (w:World),es.map (·.key)=ks.map Rec.v->
 (Instr.findAsking 151 (Rec.v x) es i).run ab w=.ok ((ks.findIdx? (·=x)).bind λj=>(es[j]?).map λe=>(i+j,e.val)) w
 |[],[],i,w,_=>by simp[Instr.findAsking]
 |[],_::_,_,_,h=>by simp at h
 |_::_,[],_,_,h=>by simp at h
 |e::es,y::ks,i,w,h=>by
  simp only[aK,List.cons.injEq]at h;obtain⟨h1,h2⟩:=h;simp only[Instr.findAsking,h1,aU,bn6,aC];by_cases ZU:x=y
  ·subst ZU;simp[List.findIdx?_cons]
  ·have hyx:¬y=x:=λh=>ZU h.symm;have hb:(x==y)=false:=bE;simp only[hb,bY,if_false];rw[Lu x es ks (i+1) w h2,List.findIdx?_cons];exact az1
theorem mJ:Keyed ab 151 Rec.v:=by
 refine⟨λe x w=>?_,λx es ks w h=>?_,λx w=>?_⟩
 ·rw[show(10000:Nat)=9999+1 from rfl,gv];simp only[aU,bC Tryz.underlying151,aC];have c1:∀(t:Nat) (kk:IntKind) (v:Int) (_:ab.underlying t=some (.int kk)),(gv e 9999 t (.int kk v)).run ab w=.ok () w:=Wx;have c2:∀(v:Bs),(gv e 9999 9 (ao v)).run ab w=.ok () w:=by
   intro v;rw[show(9999:Nat)=9998+1 from rfl,gv];simp[bC cO]
  have p0:=jL (w:=w) 87 0 x.cs.toArray nH;have p1:=jL (w:=w) 149 1 x.cs.toArray nH;have p2:=jL (w:=w) 9 2 x.cs.toArray nH;have p3:=jL (w:=w) 9 3 x.cs.toArray nH;simp at p0 p1 p2 p3;simp[p0,p1,p2,p3,c1 87 .u64 _ eO,c1 149 .i64 _ Tryz.underlying149,c2]
 ·simp only[Instr.findKey,aU,bC Tryz.underlying151,aC];cases es with
  |nil=>
   exact bD6
  |cons e0 es0=>
   have hn:∀fs,Instr.findNow (.struct fs) (Rec.v x) (e0::es0) 0=none:=bb2;rw[hn];have:=Lu x (e0::es0) ks 0 w h;simpa using this
 ·have:Instr.sameBits 10000 (Rec.v x) (Rec.v x)=true:=by
   rw[show(10000:Nat)=9998+1+1 from rfl];generalize 9998=n;simp[Instr.sameBits,zY]
  simp[Instr.keyThatStays,this]
instance:wO ab 344 (.map none):=⟨by kernel_rfl⟩
def Yb(l:List Rec)(r:Rec):List Rec:=if r∈l then l else l++[r]
def uniq(l:List Rec):List Rec:=l.foldl Yb []
theorem Ta(l:List Rec)(r:Rec):uniq (l++[r])=Yb (uniq l) r:=by grind [uniq]
theorem Yc(l:List Rec)(r x:Rec):x∈Yb l r↔x∈l\/x=r:=by
 grind [Yb]
theorem Lv(l:List Rec)(x:Rec):x∈uniq l↔x∈l:=by
 have key:∀(l a:List Rec),x∈l.foldl Yb a↔x∈a\/x∈l:=by
  intro l;induction l<;>grind [Yc]
 grind [uniq]
abbrev RV:=List (Rec×Value)
structure OA(B:Nat)(l:List Rec)(z:RV):Prop where
 keys:z.map (·.1)=uniq l
 pos:∀y∈z,∃n:Nat,y.2=aX n/\1<=n/\n<=B
theorem OA.nil(B:Nat):OA B [] []:=⟨U,λy h=>by cases h⟩
theorem OA.get{l:List Rec}{z:RV}(h:OA B l z)(r:Rec):∃n:Nat,(fB z r).getD (aX 0)=aX n/\n<=B/\(0<n↔r∈l):=by
 have hm:(fB z r).isSome=decide (r∈uniq l):=by
  rw[<-h.keys]
  grind [fB]
 cases hg:fB z r with
 |none=>
  grind [Lv]
 |some v=>
  rw[hg]at hm
  have h2:r∈uniq l:=bE
  rw[Lv]at h2
  unfold fB at hg
  obtain⟨y,hy,rfl⟩:=bk.1 hg
  obtain⟨n,h3,h4,h5⟩:=h.pos y (Y hy)
  grind
theorem OA.put{l:List Rec}{z:RV}(h:OA B l z)(r:Rec){n:Nat}(h1:1<=n)(h2:n<=B+1):OA (B+1) (l++[r]) (gJ z r (aX n)):=by
 refine⟨?_,?_⟩
 ·rw[rX,h.keys,Ta];rfl
 ·exact qa (p:=λv=>∃n:Nat,v=aX n/\1<=n/\n<=B+1) (λy hy=>by
   obtain⟨n,h3,h4,h5⟩:=h.pos y hy
   grind) ⟨n,U,h1,h2⟩
theorem OA.mono{B':Nat}{l:List Rec}{z:RV}(h:OA B l z)(hb:B<=B'):OA B' l z:=⟨h.keys,λy hy=>by
 obtain⟨n,h3,h4,h5⟩:=h.pos y hy
 grind⟩
structure wB where
 all:List Rec
 iP:List Rec
 top:UInt64
def wB.add(c:wB)(o:Bool)(r:Rec):wB:=⟨c.all++[r],if o=true then c.iP++[r]else c.iP,if c.top<r.eB then r.eB else c.top⟩
def ow(l:List Rec)(k:Bs):List Rec:=l.filter λr=>r.key==k
structure zk where
 aa:Option Addr
 ac:Nat
 KB:Nat
 OB:Nat
 ks:List (Bs×Nat×RV)
 oz:RV
structure zk.ok(i:zk)(c:wB):Prop where
 len:c.all.length<=1000000000
 nd:(i.ks.map (·.1)).Nodup
 ks:∀x∈i.ks,OA c.all.length (ow c.all x.1) x.2.2
 all:∀r∈c.all,r.key∈i.ks.map (·.1)
 oz:OA c.all.length c.iP i.oz
@[reducible] def Tb(ks:List (Bs×Nat×RV)):List (Bs×Value):=ks.map λx=>(x.1,.map (some x.2.1))
@[reducible] def Tc(x:Bs×Nat×RV):az:=mp Rec.v x.2.1 x.2.2
@[reducible] def wB.cs(c:wB)(i:zk):List Value:=[.slice i.aa c.all.length i.ac,.map (some i.KB),.map (some i.OB),.int .u64 c.top.toNat]
def oZ(b:Nat)(c:wB):az:=ex λi:zk=>[pu (i.ok c),bx b 346 (c.cs i),own 151 4 i.aa c.all.length i.ac (c.all.flatMap Rec.cs),mp ao i.KB (Tb i.ks),mp Rec.v i.OB i.oz,cV (i.ks.map Tc)]
theorem IM{ks:List (Bs×Nat×RV)}(k:Bs):(fB (Tb ks) k=none/\k∉ks.map (·.1))\/∃j,∃(_:j<ks.length),fB (Tb ks) k=some (.map (some ks[j].2.1))/\ks[j].1=k:=by
 induction ks with
 |nil=>exact .inl ⟨U,by simp⟩
 |cons x r ih=>
  unfold fB Tb at*
  rw[aK,List.find?_cons]
  by_cases h:x.1=k
  ·grind
  ·have h2:decide (x.1=k)=false:=by grind
   rw[h2]
   rcases ih with⟨h3,h4⟩|⟨j,hj,h3,h4⟩
   ·grind
   ·exact .inr ⟨j+1,by grind,h3,h4⟩
theorem an9{ks:List (Bs×Nat×RV)}(h:k∉ks.map (·.1))(b:Nat):gJ (Tb ks) k (.map (some b))=Tb (ks++[(k,b,[])]):=by
 grind [lR]
theorem BF{i:zk}{c:wB}(h:i.ok c)(hk:k∉i.ks.map (·.1)):ow c.all k=[]:=by
 unfold ow;rw[List.filter_eq_nil_iff];intro r hr hh;have hh:r.key=k:=bE;exact hk (hh▸h.all r hr)
theorem zk.ok.fresh{i:zk}{c:wB}(h:i.ok c)(hk:k∉i.ks.map (·.1))(b:Nat):zk.ok {i with ks:=i.ks++[(k,b,[])]} c:=by
 refine⟨h.len,?_,?_,?_,h.oz⟩
 ·show((i.ks++[(k,b,([]:RV))]).map (λx:Bs×Nat×RV=>x.1)).Nodup
  rw[cq,eP]
  refine⟨h.nd,by simp,λa ha b' hb'=>?_⟩
  grind
 ·intro x hx
  rcases cM.1 hx with hx|hx
  ·exact h.ks x hx
  grind [BF,OA.nil]
 ·intro r hr
  have:=h.all r hr
  grind
theorem Lw(ks:List (Bs×Nat×RV))(j:Nat)(h:j<ks.length)(z:RV):(ks.set j (ks[j].1,ks[j].2.1,z)).map (·.1)=ks.map (·.1):=by
 rw[eZ]
 apply List.ext_getElem nH
 grind
theorem ao0(ks:List (Bs×Nat×RV))(j:Nat)(h:j<ks.length)(z:RV):Tb (ks.set j (ks[j].1,ks[j].2.1,z))=Tb ks:=by
 unfold Tb
 rw[eZ]
 apply List.ext_getElem nH
 grind
theorem zk.ok.add{i:zk}{c:wB}(h:i.ok c)(hl:c.all.length+1<=1000000000)(r:Rec)(o:Bool)(j:Nat)(hj:j<i.ks.length)(hjk:i.ks[j].1=r.key){n m:Nat}(hn:1<=n/\n<=c.all.length+1)(hm:1<=m/\m<=c.all.length+1)(aa:Option Addr)(ac:Nat):
 zk.ok ⟨aa,ac,i.KB,i.OB,i.ks.set j (i.ks[j].1,i.ks[j].2.1,gJ i.ks[j].2.2 r (aX n)),if o=true then gJ i.oz r (aX m)else i.oz⟩ (c.add o r):=by
 have ub:(c.add o r).all=c.all++[r]:=U
 refine⟨?_,?_,?_,?_,?_⟩
 ·grind
 ·show((i.ks.set j _).map (λx:Bs×Nat×RV=>x.1)).Nodup;rw[Lw];exact h.nd
 ·intro x hx;rw[ub,aG,List.length_singleton];have hx:x∈i.ks.set j (i.ks[j].1,i.ks[j].2.1,gJ i.ks[j].2.2 r (aX n)):=hx;obtain⟨t,ht,rfl⟩:=List.mem_iff_getElem.1 hx;rw[gB]at ht;by_cases hjt:j=t
  ·subst hjt;rw[List.getElem_set_self];dsimp only;have h1:=h.ks i.ks[j] (aB hj);rw[hjk]at h1 ⊢;have h2:ow (c.all++[r]) r.key=ow c.all r.key++[r]:=by grind [ow]
   rw[h2];exact h1.put r hn.1 hn.2
  ·rw[List.getElem_set_ne hjt];have h1:=h.ks i.ks[t] (aB ht);have me:¬r.key=i.ks[t].1:=by
    intro he;have h3:(i.ks.map (·.1))[j]' bE=(i.ks.map (·.1))[t]' bE:=by
     grind
    exact hjt ((List.getElem_inj h.nd).1 h3)
   have h2:ow (c.all++[r]) i.ks[t].1=ow c.all i.ks[t].1:=by
    grind [ow]
   rw[h2];exact h1.mono av
 ·intro x hx
  show x.key∈(i.ks.set j _).map (λx:Bs×Nat×RV=>x.1)
  rw[Lw]
  rw[ub]at hx
  rcases cM.1 hx with hx|hx
  ·exact h.all x hx
  grind
 ·rw[ub,aG,List.length_singleton];show OA _ (if o=true then c.iP++[r]else c.iP) (if o=true then gJ i.oz r (aX m)else i.oz);split
  ·exact h.oz.put r hm.1 hm.2
  ·exact h.oz.mono av
def Yd(c:wB)(s:nD):wB:=s.qP.foldl (λc r=>c.add s.iP r) c
def pC(l:List nD):wB:=l.foldl Yd ⟨[],[],0⟩
def zm(l:List nD):Nat:=(l.map λs=>s.qP.length).sum
theorem OC(h:i<l.length):pC (l.take (i+1))=Yd (pC (l.take i)) l[i]:=by
 grind [pC,aY]
theorem zn(o:Bool):∀(l:List Rec) (c:wB),(l.foldl (λc r=>c.add o r) c).all=c.all++l
 |[],c=>by simp
 |r::l,c=>by rw[cY,zn o l];show(c.all++[r])++l=_;simp
theorem Td:(pC l).all=l.flatMap (·.qP):=by
 have key:∀(l:List nD) (c:wB),(l.foldl Yd c).all=c.all++l.flatMap (·.qP):=by
  intro l;induction l with
  |nil=>intro c;simp
  |cons s r ih=>intro c;rw[cY,ih,Yd,zn,eQ,bT]
 grind [pC]
theorem Te:zm (l.take i)<=zm l:=by
 grind [zm,cP]
theorem se:(pC l).all.length=zm l:=by rw[Td,List.length_flatMap];rfl
theorem a06(hn:q.length=n)(hs:n<=1000000000000)(gE:zm (q.map (·.1))<=1000000000):
 TR ab G 222 #[.slice a n c] [bV (bp nN.cs) 5 a q,Fo q] (cb λv B=>∃C,v=au C/\B=[oZ C (pC (q.map (·.1)))]):=by
 subst hn
 refine cg U λb β Sj hG=>xS ?_
 refine qR ao U U λKB=>xS ?_
 refine qR Rec.v U U λOB=>?_
 refine xP ?_
 intro C
 refine X.cd (ej 151 4 _) ?_
 refine jc ([]:List az) ?_
 refine X.cd (dY (p:=zk.ok ⟨none,0,KB,OB,[],[]⟩ ⟨[],[],0⟩) ⟨by simp,by simp,λx hx=>ua,λx hx=>ua,OA.nil _⟩ _) ?_
 refine X.cd (Hs':=[pu (zk.ok ⟨none,0,KB,OB,[],[]⟩ ⟨[],[],0⟩),cV (([]:List (Bs×Nat×RV)).map Tc),own 151 4 none 0 0 (([]:List Rec).flatMap Rec.cs),bx C 346 (wB.cs ⟨[],[],0⟩ ⟨none,0,KB,OB,[],[]⟩),mp Rec.v OB [],mp ao KB (Tb []),bV (bp nN.cs) 5 a q,Fo q]) (aN.refl _) ?_
 refine fi oZ C ⟨[],[],0⟩ U ⟨none,0,KB,OB,[],[]⟩ ?_
 refine eT [3,12] [0] (ι:={i:Nat // i<=q.length}) (λi q_=>(13,aX q.length)::(14,aX i.1)::q_) (λi q_=>oZ C (pC ((q.map (·.1)).take i.1))::q_) (λi=>q.length - i.1) ⟨0,al _⟩ ?_
 rintro⟨i,hi⟩ ih
 dsimp only at hi ih ⊢
 refine xB ?_ ?_<;>intro h
 ·have hi:i<q.length:=by grind
  have iq:=aB hi;have hct:=OC (q.map (·.1)) i Ij;have wm:=se ((q.map (·.1)).take i);have hcl2:=se ((q.map (·.1)).take (i+1));have hmt:=Te (q.map (·.1)) (i+1);rw[ft]at hct;refine av7 q q[i] iq λ_ _=>?_;generalize pC ((q.map (·.1)).take i)=c0 at*;refine xS ?_;refine cH U U U U U hi U λbl o=>?_;generalize q[i]=x at*;have Z3:Yd c0 x.1=x.1.qP.foldl (λc r=>c.add x.1.iP r) c0:=U;have ub:=zn x.1.iP x.1.qP c0;rw[<-Z3,<-hct]at ub;rw[Z3]at hct;refine xS ?_;refine dF U U U U  ?_;refine xA ?_;intro b5;have N7:c0.all.length+x.1.qP.length<=1000000000:=by
   grind
  refine eT [3,5,12,13,14,19] [1,1,2] (ι:={z:Nat×wB // z.1<=x.1.qP.length/\z.2=(x.1.qP.take z.1).foldl (λc r=>c.add x.1.iP r) c0}) (λz q_=>(20,aX x.1.qP.length)::(21,aX z.1.1)::q_) (λz q_=>oZ C z.1.2::q_) (λz=>x.1.qP.length - z.1.1) ⟨(0,c0),al _,U⟩ ?_;rintro⟨⟨j,cj⟩,hj,Z'⟩ pG;dsimp only at hj Z' pG ⊢;have hjl:cj.all.length=c0.all.length+j:=by rw[Z',zn,aG,cB];omega
  refine xB ?_ ?_<;>intro h2
  ·have hj:j<x.1.qP.length:=by grind
   have Uf:cj.add x.1.iP x.1.qP[j]=(x.1.qP.take (j+1)).foldl (λc r=>c.add x.1.iP r) c0:=by
    grind [aY]
   refine xS ?_
   refine cH U U U U U hj U λVM o2=>?_
   generalize x.1.qP[j]=r at*
   refine xS ?_
   refine dF U U U U  ?_
   refine xA ?_
   intro b7
   refine X.ma oZ C U λI=>?_
   dsimp only[ae,ai,ah]
   refine lj λhI=>?_
   obtain⟨aa,ac,KB,OB,ks,oz⟩:=I
   dsimp only[wB.cs]at hI ⊢
   have sD:=IM (ks:=ks) r.key
   refine aa9 [3,5,7,12,13,14,19,20,21] [2,3,4] (ι:={z:List (Bs×Nat×RV)×Nat // zk.ok ⟨aa,ac,KB,OB,z.1,oz⟩ cj/\∃h:z.2<z.1.length,z.1[z.2].1=r.key}) (λz q_=>q_) (λz q_=>mp ao KB (Tb z.1.1)::cV (z.1.1.map Tc)::q_) ?fin ?main
   case main=>
    intro KK dW;rcases sD with⟨hg,hk⟩|⟨t,ht,hg,hk⟩
    ·refine eR 8 [0,2,5] ?_;apply cW [0,1,2,3,4,5,6,7] U U U
     ·intro p hp;refine xS ?_;refine rJ (zv:=.map none) r.key U U U U ?_;rw[hg,Option.getD_none];exact aB1
     ·rfl
     ·rfl
     refine xS ?_;refine eR 6 [0,5] ?_;refine xL [0,1,2,3,4,5] ?_;refine xS ?_;refine qR Rec.v U U λNB=>xS ?_;refine qi r.key bW U U U U ?_;rw[an9 hk];refine xS ?_;refine be0 Tc ks (r.key,NB,[]) ?_;exact X.W (dW ⟨(ks++[(r.key,NB,[])],ks.length),hI.fresh hk NB,by simp,by simp⟩)
    ·refine eR 8 [0,2,5] ?_;apply cW [0,1,2,3,4,5,6,7] U U U
     ·intro p hp;refine xS ?_;refine rJ (zv:=.map none) r.key U U U U ?_;rw[hg,bX];exact aB1
     ·rfl
     ·rfl
     refine xS ?_;exact X.W (dW ⟨(ks,t),hI,ht,hk⟩)
   case fin=>
    clear sD hI
    rintro⟨⟨ks,t⟩,hI,ht,hk⟩
    dsimp only at hI ht hk ⊢
    have hg:fB (Tb ks) r.key=some (.map (some ks[t].2.1)):=by
     rcases IM (ks:=ks) r.key with⟨_,h4⟩|⟨u,hu,h3,h4⟩
     ·grind
     ·have h5:(ks.map (·.1))[u]' bE=(ks.map (·.1))[t]' bE:=by
       grind
      have:=(List.getElem_inj hI.nd).1 h5
      grind
    obtain⟨n1,C9,tH,_⟩:=(hI.ks _ (aB ht)).get r
    obtain⟨m1,py,HU,_⟩:=hI.oz.get r
    have hsk:=ao0 ks t ht (gJ ks[t].2.2 r (.int .i64 ((n1:Int)+1)))
    have JP:=λo=>hI.add av r o t ht hk (n:=n1+1) (m:=m1+1) ⟨by omega,by omega⟩ ⟨by omega,by omega⟩
    have e1:aX ((n1+1:Nat):Int)=.int .i64 ((n1:Int)+1):=pH
    have e2:aX ((m1+1:Nat):Int)=.int .i64 ((m1:Int)+1):=pH
    rw[e1,e2]at JP
    refine ab2 Tc ks t ht ?_
    generalize Mt:ks[t]=e at*
    obtain⟨ek,eb,ez⟩:=e
    dsimp only[Tc]at*
    have C9:(fB ez r).getD (.int .i64 0)=.int .i64 n1:=C9
    have py:(fB oz r).getD (.int .i64 0)=.int .i64 m1:=py
    refine xS ?_
    refine tU [3,5,7,12,13,14,19,20,21] [0] (ι:=Unit) (λ_ q_=>q_) (λ_ q_=>mp Rec.v eb (gJ ez r (.int .i64 (n1+1)))::q_) ?f2 ?m2
    case m2=>
     intro KK dW;refine fM (uC [0,1,2,3,4,5,6,7]) [bx C 346 [.slice aa cj.all.length ac,.map (some KB),.map (some OB),.int .u64 cj.top.toNat],mp ao KB (Tb ks),bx b7 151 r.cs] U ?_;apply cW [0,1,2,3,4,5,6,7] U U U
     ·intro p hp;refine xS ?_;refine rJ (zv:=.map none) r.key U U U U ?_;rw[hg,bX];exact aI7
     ·rfl
     ·rfl
     refine xS ?_;refine dA U U U U U ?_ ?_
     ·refine qS (zv:=.int .i64 0) r mJ U U U U (λw _=>wO.run (P:=ab) (t:=3) inferInstance w) ?_;rw[C9];exact bw1
     ·refine CQ r mJ U U U U λjj st Fm=>xS ?_;refine dA U U U U U ?_ ?_
      ·refine zQ (zv:=.int .i64 0) r mJ U U U U (λw=>wO.run (P:=ab) (t:=3) inferInstance w) ?_;rw[mV,if_pos U,bX];rw[C9]at Fm ⊢;exact bu2
      ·refine xS ?_;refine zQ (zv:=.int .i64 0) r mJ U U U U (λw=>wO.run (P:=ab) (t:=3) inferInstance w) ?_;rw[mV,if_pos U,bX];rw[C9]at Fm ⊢;exact bu4
    case f2=>
     intro _
     have JP:=JP x.1.iP
     have hksl:(ks.set t (ek,eb,gJ ez r (.int .i64 ((n1:Int)+1)))).length=ks.length:=gB ..
     refine Uy Tc ks t ht (ek,eb,gJ ez r (.int .i64 ((n1:Int)+1))) ?_
     rw[<-hsk]
     generalize ks.set t (ek,eb,gJ ez r (.int .i64 ((n1:Int)+1)))=ks2 at*
     refine xS ?_
     refine tU [3,5,7,12,13,14,19,20,21] [4] (ι:=Unit) (λ_ q_=>q_) (λ_ q_=>mp Rec.v OB (if x.1.iP=true then gJ oz r (.int .i64 (m1+1))else oz)::q_) ?f3 ?m3
     case m3=>
      intro KK dW;refine xB ?_ ?_<;>intro ho
      ·have ho:x.1.iP=true:=ho;rw[if_pos ho]at dW;refine xS ?_;refine fM (uC [0,1,2,3,4]) [bx C 346 [.slice aa cj.all.length ac,.map (some KB),.map (some OB),.int .u64 cj.top.toNat],bx b7 151 r.cs] U ?_;refine xL [0,1,2,3,4] ?_;refine xS ?_;refine dA U U U U U ?_ ?_
       ·refine qS (zv:=.int .i64 0) r mJ U U U U (λw _=>wO.run (P:=ab) (t:=3) inferInstance w) ?_;rw[py];exact bw1
       ·refine CQ r mJ U U U U λjj st Fm=>xS ?_;refine dA U U U U U ?_ ?_
        ·refine zQ (zv:=.int .i64 0) r mJ U U U U (λw=>wO.run (P:=ab) (t:=3) inferInstance w) ?_;rw[mV,if_pos U,bX];rw[py]at Fm ⊢;exact bu2
        ·refine xS ?_;refine zQ (zv:=.int .i64 0) r mJ U U U U (λw=>wO.run (P:=ab) (t:=3) inferInstance w) ?_;rw[mV,if_pos U,bX];rw[py]at Fm ⊢;exact bu4
      ·have ho:¬x.1.iP=true:=by grind
       rw[if_neg ho]at dW;exact aB3
     case f3=>
      intro _;have htp:(if((cj.top.toNat:Nat):Int)<(r.eB.toNat:Nat)then((r.eB.toNat:Nat):Int)else(cj.top.toNat:Nat))=(((cj.add x.1.iP r).top.toNat:Nat):Int):=by
       grind [wB.add,UInt64.lt_iff_toNat_lt]
      generalize(if x.1.iP=true then gJ oz r (.int .i64 (m1+1))else oz)=oz2 at*;refine xS ?_;refine fM (uC [0,1,2,3,4,5,6,7]) [bx C 346 [.slice aa cj.all.length ac,.map (some KB),.map (some OB),.int .u64 cj.top.toNat],bx b7 151 r.cs] U ?_;refine xL [0,1,2,3,4,5,6,7] ?_;refine xS ?_;rw[htp];refine eR 6 [0,5] ?_;refine xL [0,1,2,3,4,5] ?_;refine xZ ?_;intro b79;refine eD (r) U U U U av U iA iA iA iA iA av λa80 c80=>xS ?_;have sE:cj.all++[r]=(cj.add x.1.iP r).all:=U;rw[sE];refine X.cd (dY (JP a80 c80) _) ?_;refine fi oZ C (cj.add x.1.iP r) U ⟨a80,c80,KB,OB,ks2,oz2⟩ ?_;exact X.W (pG ⟨(j+1,cj.add x.1.iP r),by omega,Uf⟩ bE)
  ·have Mp:j=x.1.qP.length:=by grind
   subst Mp;rw[bh,<-hct]at Z';subst Z';exact aO9
 ·have fw:i=q.length:=by grind
  subst fw;rw[aD nH];refine xS ?_;exact X.ret Sj (.tmps U) ⟨_,⟨C,U,U⟩,ay⟩
def wB.keeps(c:wB)(r:Rec):Bool:=decide (r∈c.iP)&&(r.kind==1||decide (1<(uniq (ow c.all r.key)).length)||r.eB==c.top)
theorem Ye(C:Nat)(c:wB)(r:Rec):TR ab G 334 #[au C,.agg (Rec.cs r).toArray] [oZ C c] (cb λv B=>v=.bool (c.keeps r)/\B=[oZ C c]):=by
 refine aW U λb β hb hG=>?_
 have hk:c.keeps r=(decide (r∈c.iP)&&(r.kind==1||decide (1<(uniq (ow c.all r.key)).length)||r.eB==c.top)):=U
 refine X.ma oZ C U λI=>?_
 dsimp only[ae,ai,ah]
 refine lj λhI=>?_
 obtain⟨aa,ac,KB,OB,ks,oz⟩:=I
 dsimp only[wB.cs]at hI ⊢
 have sD:=IM (ks:=ks) r.key
 obtain⟨m1,py,HU,hm3⟩:=hI.oz.get r
 have py:(fB oz r).getD (.int .i64 0)=.int .i64 m1:=py
 refine xP ?_
 intro b3
 by_cases ho:r∈c.iP
 ·have hm4:0<m1:=hm3.2 ho
  by_cases hki:r.kind=1
  ·refine eR 32 [1,3,4,0] ?_
   apply cW [0,1,2,3,4,5,6,7,8,9,10,11,12,13,14,15,16,17,18,19,20,21,22,23,24,25,26,27,28,29,30,31] U U U
   ·intro p hp
    refine xS ?_
    refine qS (zv:=.int .i64 0) r mJ U U U U (λw _=>wO.run (P:=ab) (t:=3) inferInstance w) ?_
    rw[py]
    refine xS ?_
    refine aM 12 true U (by simp;omega) (xS ?_)
    refine aM 16 true U (by simp[hki]) (xS ?_)
    refine aM 27 true U (by simp) (xS ?_)
    exact hp
   ·rfl
   ·rfl
   refine xS ?_
   refine X.cd (dY hI _) ?_
   refine fi oZ C c U ⟨aa,ac,KB,OB,ks,oz⟩ ?_
   exact bO hb (.tmps U) ⟨by grind [lx],U⟩
  ·rcases sD with⟨hg,hkn⟩|⟨t,ht,hg,hkn⟩
   ·have hlen:(uniq (ow c.all r.key)).length=0:=by rw[BF hI hkn];rfl
    by_cases htp:r.eB=c.top
    ·refine eR 32 [1,3,4,0] ?_
     apply cW [0,1,2,3,4,5,6,7,8,9,10,11,12,13,14,15,16,17,18,19,20,21,22,23,24,25,26,27,28,29,30,31] U U U
     ·intro p hp
      refine xS ?_
      refine qS (zv:=.int .i64 0) r mJ U U U U (λw _=>wO.run (P:=ab) (t:=3) inferInstance w) ?_
      rw[py]
      refine xS ?_
      refine aM 12 true U (by simp;omega) (xS ?_)
      refine aM 16 false U (by simp[hki]) (xS ?_)
      refine rJ (zv:=.map none) r.key U U U U ?_
      rw[hg,Option.getD_none]
      refine xS ?_
      refine aa5 U U U (xS ?_)
      refine aM 27 false U (by simp) (xS ?_)
      exact hp
     ·rfl
     ·rfl
     refine xS ?_
     refine X.cd (dY hI _) ?_
     refine fi oZ C c U ⟨aa,ac,KB,OB,ks,oz⟩ ?_
     exact bO hb (.tmps U) ⟨by grind [lx],U⟩
    ·refine eR 32 [1,3,4,0] ?_
     apply cW [0,1,2,3,4,5,6,7,8,9,10,11,12,13,14,15,16,17,18,19,20,21,22,23,24,25,26,27,28,29,30,31] U U U
     ·intro p hp
      refine xS ?_
      refine qS (zv:=.int .i64 0) r mJ U U U U (λw _=>wO.run (P:=ab) (t:=3) inferInstance w) ?_
      rw[py]
      refine xS ?_
      refine aM 12 true U (by simp;omega) (xS ?_)
      refine aM 16 false U (by simp[hki]) (xS ?_)
      refine rJ (zv:=.map none) r.key U U U U ?_
      rw[hg,Option.getD_none]
      refine xS ?_
      refine aa5 U U U (xS ?_)
      refine aM 27 false U (by simp) (xS ?_)
      exact hp
     ·rfl
     ·rfl
     refine xS ?_
     have Xz:(((r.eB.toNat:Nat):Int)==(c.top.toNat:Nat))=false:=by
      grind [gL]
     have hkb:(r.kind==1)=false:=by grind
     have htb:(r.eB==c.top)=false:=by grind
     refine X.cd (dY hI _) ?_
     refine fi oZ C c U ⟨aa,ac,KB,OB,ks,oz⟩ ?_
     exact bO hb (.tmps U) ⟨by grind [lx],U⟩
   ·have Uf:=hI.ks _ (aB ht)
    rw[hkn]at Uf
    have hlen:(uniq (ow c.all r.key)).length=ks[t].2.2.length:=by rw[<-Uf.keys,aA]
    have IG:ks.set t ks[t]=ks:=List.set_getElem_self ..
    refine ab2 Tc ks t ht ?_
    generalize ks[t]=e at*
    obtain⟨ek,eb,ez⟩:=e
    dsimp only[Tc]at*
    by_cases hl:1<ez.length
    ·refine eR 32 [3,5,6,2,0] ?_
     apply cW [0,1,2,3,4,5,6,7,8,9,10,11,12,13,14,15,16,17,18,19,20,21,22,23,24,25,26,27,28,29,30,31] U U U
     ·intro p hp
      refine xS ?_
      refine qS (zv:=.int .i64 0) r mJ U U U U (λw _=>wO.run (P:=ab) (t:=3) inferInstance w) ?_
      rw[py]
      refine xS ?_
      refine aM 12 true U (by simp;omega) (xS ?_)
      refine aM 16 false U (by simp[hki]) (xS ?_)
      refine rJ (zv:=.map none) r.key U U U U ?_
      rw[hg,bX]
      refine xS ?_
      refine Mv U U U (xS ?_)
      refine aM 27 true U (by simp;omega) (xS ?_)
      exact hp
     ·rfl
     ·rfl
     refine xS ?_
     refine Uy Tc ks t ht (ek,eb,ez) ?_
     rw[IG]
     refine X.cd (dY hI _) ?_
     refine fi oZ C c U ⟨aa,ac,KB,OB,ks,oz⟩ ?_
     exact bO hb (.tmps U) ⟨by grind [lx],U⟩
    ·have pz:¬(1:Int)<ez.length:=by omega
     by_cases htp:r.eB=c.top
     ·refine eR 32 [3,5,6,2,0] ?_
      apply cW [0,1,2,3,4,5,6,7,8,9,10,11,12,13,14,15,16,17,18,19,20,21,22,23,24,25,26,27,28,29,30,31] U U U
      ·intro p hp
       refine xS ?_
       refine qS (zv:=.int .i64 0) r mJ U U U U (λw _=>wO.run (P:=ab) (t:=3) inferInstance w) ?_
       rw[py]
       refine xS ?_
       refine aM 12 true U (by simp;omega) (xS ?_)
       refine aM 16 false U (by simp[hki]) (xS ?_)
       refine rJ (zv:=.map none) r.key U U U U ?_
       rw[hg,bX]
       refine xS ?_
       refine Mv U U U (xS ?_)
       refine aM 27 false U (by simp;omega) (xS ?_)
       exact hp
      ·rfl
      ·rfl
      refine xS ?_
      refine Uy Tc ks t ht (ek,eb,ez) ?_
      rw[IG]
      refine X.cd (dY hI _) ?_
      refine fi oZ C c U ⟨aa,ac,KB,OB,ks,oz⟩ ?_
      exact bO hb (.tmps U) ⟨by grind [lx],U⟩
     ·refine eR 32 [3,5,6,2,0] ?_
      apply cW [0,1,2,3,4,5,6,7,8,9,10,11,12,13,14,15,16,17,18,19,20,21,22,23,24,25,26,27,28,29,30,31] U U U
      ·intro p hp
       refine xS ?_
       refine qS (zv:=.int .i64 0) r mJ U U U U (λw _=>wO.run (P:=ab) (t:=3) inferInstance w) ?_
       rw[py]
       refine xS ?_
       refine aM 12 true U (by simp;omega) (xS ?_)
       refine aM 16 false U (by simp[hki]) (xS ?_)
       refine rJ (zv:=.map none) r.key U U U U ?_
       rw[hg,bX]
       refine xS ?_
       refine Mv U U U (xS ?_)
       refine aM 27 false U (by simp;omega) (xS ?_)
       exact hp
      ·rfl
      ·rfl
      refine xS ?_
      have Xz:(((r.eB.toNat:Nat):Int)==(c.top.toNat:Nat))=false:=by
       grind [gL]
      have hkb:(r.kind==1)=false:=by grind
      have htb:(r.eB==c.top)=false:=by grind
      refine Uy Tc ks t ht (ek,eb,ez) ?_
      rw[IG]
      refine X.cd (dY hI _) ?_
      refine fi oZ C c U ⟨aa,ac,KB,OB,ks,oz⟩ ?_
      exact bO hb (.tmps U) ⟨by grind [lx],U⟩
 ·have hm4:¬0<m1:=by grind
  refine eR 32 [1,3,4,0] ?_
  apply cW [0,1,2,3,4,5,6,7,8,9,10,11,12,13,14,15,16,17,18,19,20,21,22,23,24,25,26,27,28,29,30,31] U U U
  ·intro p hp
   refine xS ?_
   refine qS (zv:=.int .i64 0) r mJ U U U U (λw _=>wO.run (P:=ab) (t:=3) inferInstance w) ?_
   rw[py]
   refine xS ?_
   refine aM 12 false U (by simp;omega) (xS ?_)
   exact hp
  ·rfl
  ·rfl
  refine xS ?_
  refine X.cd (dY hI _) ?_
  refine fi oZ C c U ⟨aa,ac,KB,OB,ks,oz⟩ ?_
  exact bO hb (.tmps U) ⟨by grind [lx],U⟩
end
section
variable{L:Nat}{nm:Bs}{s:nD}(l:List bn)(iP:List nD)(size:Int)(G:bZ)(M C:Nat)(c:wB)(a:Option Addr)(n:Nat)
instance(x:Bs×Nat×RV):Nf (Tc x):=inferInstanceAs (Nf (mp _ _ _))
instance(ks:List (Bs×Nat×RV)):Nf (cV (ks.map Tc)):=Ct ⟨λp hp=>by obtain⟨x,_,rfl⟩:=bj.1 hp;infer_instance⟩
instance(C:Nat)(c:wB):Nf (oZ C c):=aR8 λi=>inferInstance
theorem Yf(b1 C:Nat)(c:wB)(r:Rec):TR ab G 333 (([]:List Value)++[gn (Rec.cs r).toArray]++[au b1]).toArray [cV [bx b1 339 [au C],oZ C c]] (cb λv B=>v=.bool (!c.keeps r)/\B=[cV [bx b1 339 [au C],oZ C c]]):=by
 refine aW U λb β hb hG=>?_;refine kZ [bx b1 339 [au C],oZ C c] (xD ?_);refine xP ?_;intro b2;refine bw (Ye G C c r) ?_;rintro v B ⟨rfl,rfl⟩;refine xD ?_;refine jc [bx b1 339 [au C],oZ C c] ?_;exact xR
def wB.kept(c:wB):List Rec:=kf (λx y=>decide (cfR x y<0)) ((mw c.all).filter λr=> !(!c.keeps r))
theorem ao1(hl:(mw c.all).length<=1000000000):TR ab G 223 #[au C] [oZ C c] (cb λv B=>∃a m,v=.slice a c.kept.length m/\B=[own 151 4 a c.kept.length m (c.kept.flatMap Rec.cs),oZ C c]):=by
 refine cg U λb β hb hG=>?_;have PY:c.kept=kf (λx y=>decide (cfR x y<0)) ((mw c.all).filter λr=> !(!c.keeps r)):=U;refine xP ?_;intro b1;refine X.ma oZ C U λI=>?_;dsimp only[ae,ai,ah];refine lj λhI=>?_;have ub:=hI.len;dsimp only[wB.cs];refine xS ?_;refine bw (mf (e:=151) (c:=I.ac) (an0 G I.aa _ I.ac c.all U ub) (by rintro v B ⟨_,_,_,rfl⟩;infer_instance) U (λ_=>rfl)) ?_;rintro v B ⟨_,⟨a2,c2,rfl,rfl⟩,rfl⟩;dsimp only[ae,ai,ah];refine X.cd (dY hI _) ?_;refine fi oZ C c U I (xS ?_);refine jc [bx b1 339 [au C],oZ C c] ?_;refine xH (X9 G 333 [au b1] [bx b1 339 [au C],oZ C c] (hA:=⟨λp hp=>by rw[bD.1 hp];exact Ct inferInstance⟩) (λr=> !c.keeps r) a2 _ c2 (mw c.all) U av (λx _=>Yf G b1 C c x)) ?_;have pN:((mw c.all).filter λr=> !(!c.keeps r)).length<=1000000000:=aj (dD _ _) hl;generalize(mw c.all).filter (λr=> !(!c.keeps r))=F at*;refine xH (SR.GJ G cfR 338 (λx y=>a05 G x y) a2 _ c2 F U av) ?_;refine kZ [bx b1 339 [au C],oZ C c] (xD ?_);refine X.ret hb (.tmps U) ⟨_,⟨a2,c2,by rw[PY,jS];rfl,U⟩,?_⟩;rw[PY,jS];exact ay
def G'(out:List Bs):Bs:=out.getD (out.length - 1) []
def pk(size:Int)(out:List Bs)(r:Rec):List Bs:=
 if ca (fj r)≠0 then out
 else if out.length=0\/((G' out).length+(mS (fj r)).length:Int)>size then out++[mS (fj r)]
 else out.set (out.length - 1) (G' out++mS (fj r))
def pD(l:List Rec)(size:Int):List Bs:=l.foldl (pk size) []
@[reducible] def bsE(z:WB Bs):List Value:=[.slice z.2.1 z.1.length z.2.2]
@[reducible] def Yg(z:WB Bs):az:=own 5 1 z.2.1 z.1.length z.2.2 (z.1.map fO)
theorem OD(l:List Rec)(size:Int)(i:Nat)(h:i<l.length):pD (l.take (i+1)) size=pk size (pD (l.take i) size) l[i]:=by
 grind [pD,aY]
theorem ao3(l:List Bs)(i:Nat)(h:i<l.length)(y:Bs):((l.set i y).map dq).sum+l[i].length=(l.map dq).sum+y.length:=by
 induction l generalizing i with
 |nil=>cases h
 |cons x r ih=>
  cases i<;>grind
theorem Ly{out:List Bs}(h:out.length≠0):G' out=out[out.length - 1]' av:=by
 grind [G']
theorem Tf(out:List Bs)(r:Rec):(pk size out r).length<=out.length+1/\((pk size out r).map dq).sum<=(out.map dq).sum+6100:=by
 grind [pk,mT,ao3,Ly]
theorem ED(l:List Rec):(pD l size).length<=l.length/\((pD l size).map dq).sum<=6100*l.length:=by
 have key:∀(l:List Rec) (out:List Bs),(l.foldl (pk size) out).length<=out.length+l.length/\((l.foldl (pk size) out).map dq).sum<=(out.map dq).sum+6100*l.length:=by
  intro l;induction l<;>grind [Tf]
 grind [pD]
theorem ao4{l:List Bs}{x:Bs}(h:x∈l):x.length<=(l.map dq).sum:=by
 induction l<;>grind
theorem Tg(c:Nat)(l:List Rec)(size:Int)(hn:l.length=n)(hs:n<=1000000000):
 TR ab G 226 #[.slice a n c,.int .i64 size] [bV (bp Rec.cs) 4 a l] (cb λv B=>∃a5 c5,∃Z:List (WB Bs),Z.map (·.1)=pD l size/\v=.slice a5 Z.length c5/\B=[own 55 1 a5 Z.length c5 (Z.flatMap bsE),cV (Z.map Yg)]):=by
 subst hn
 refine aW U λb β hb hG=>xS ?_
 refine X.cd (ej 55 1 _) ?_
 refine jc ([]:List az) ?_
 refine eT [1,11] [1,0] (ι:={z:Nat×(Option Addr×Nat)×List (WB Bs) // z.1<=l.length/\z.2.2.map (·.1)=pD (l.take z.1) size}) (λz q_=>(5,.slice z.1.2.1.1 z.1.2.2.length z.1.2.1.2)::(12,aX l.length)::(13,aX z.1.1)::q_) (λz q_=>own 55 1 z.1.2.1.1 z.1.2.2.length z.1.2.1.2 (z.1.2.2.flatMap bsE)::cV (z.1.2.2.map Yg)::q_) (λz=>l.length - z.1.1) ⟨(0,(none,0),[]),al _,U⟩ ?_
 rintro⟨⟨i,⟨a5,c5⟩,Z⟩,hi,hZ⟩ ih
 dsimp only at hi hZ ih ⊢
 have hpo:=ED size (l.take i)
 rw[<-hZ,aA,cB]at hpo
 refine xB ?_ ?_<;>intro h
 ·have hi:i<l.length:=by grind
  have iz:=OD l size i hi;rw[<-hZ]at iz;refine xS ?_;refine cH U U U U U hi U λbl o=>?_;generalize l[i]=r at*;refine xS ?_;refine dF U U U U  ?_;refine xA ?_;intro b7;refine bw (Aa G (fj r)) ?_;unfold pk at iz;rintro v B (⟨he,a8,c8,rfl,rfl⟩|⟨he,rfl,rfl⟩)
  ·rw[if_neg (by simp[he])]at iz;have Gk:=mT (fj r) he;generalize mS (fj r)=e at*;refine xD ?_;refine xT 30 ?_ ?_<;>intro h2
   ·have h2:Z.length=0:=by grind
    rw[if_pos (.inl bE)]at iz;exact bm2
   ·have h2:Z.length≠0:=by grind
    obtain⟨k,hk⟩:∃k,Z.length=k+1:=⟨Z.length - 1,by omega⟩;have hj:k<Z.length:=av;obtain⟨z,hz⟩:∃z,z=Z[k]:=⟨_,U⟩;have hlb:G' (Z.map (·.1))=z.1:=by
     grind [Ly]
    have BT:z.1.length<=6100000000000:=by
     have:=ao4 (bj.2 ⟨_,aB hj,U⟩:Z[k].1∈Z.map (·.1))
     grind
    rw[hlb,aA,hk,Nat.add_sub_cancel]at iz;refine gV a5 av λg hg=>?_;subst hg;refine xS ?_;refine du (j:=k) U U U U av av (xS ?_);refine HK (bo:=bsE) (l:=Z) (v:=.slice z.2.1 z.1.length z.2.2) k 0 U U U U (λ_=>rfl) (aQ _) hj (by rw[<-hz];rfl)  ?_;refine xB ?_ ?_<;>intro h3
    ·have h3:(z.1.length+e.length:Int)>size:=by grind
     rw[if_pos (.inr h3)]at iz;exact bm2
    ·have h3:¬(z.1.length+e.length:Int)>size:=by grind
     rw[if_neg (λh=>h.elim av h3)]at iz;refine ab2 Yg Z k hj ?_;rw[<-hz];refine iE a8 (l:=e) U λ_=>xS ?_;refine du (j:=k) U U U U av av (xS ?_);refine HK (bo:=bsE) (l:=Z) (v:=.slice z.2.1 z.1.length z.2.2) k 0 U U U U (λ_=>rfl) (aQ _) hj (by rw[<-hz];rfl) (xS ?_);refine iw U U U U U av λa53 c53=>xS ?_;refine du (j:=k) U U U U av av (xS ?_);refine HN (bo:=bsE) (l:=Z) k 0 ((z.1++e,a53,c53):WB Bs) (λ_=>rfl) U U U U (λ_=>rfl) (aQ _) hj de U U ?_;refine Uy Yg Z k hj ((z.1++e,a53,c53):WB Bs) ?_;have sI:(Z.set k ((z.1++e,a53,c53):WB Bs)).length=Z.length:=gB ..;have pf:(Z.set k ((z.1++e,a53,c53):WB Bs)).map (·.1)=pD (l.take (i+1)) size:=by rw[iz,eZ]
     rw[<-sI];generalize Z.set k ((z.1++e,a53,c53):WB Bs)=Z2 at*;refine xS ?_;exact X.W (ih ⟨(i+1,(some ⟨g,0,none⟩,c5),Z2),by omega,pf⟩ bE)
  ·rw[if_pos he]at iz;refine xD ?_;refine aM 24 true U (by simp[he]) (xS ?_);exact X.W (ih ⟨(i+1,(a5,c5),Z),by omega,iz.symm⟩ bE)
 ·have fw:i=l.length:=by grind
  subst fw;rw[bh]at hZ;refine xS ?_;exact bO hb (.tmps U) ⟨a5,c5,Z,hZ,U,U⟩
@[reducible] def IN(b:Bs):Bs:=b
theorem aV0(x:WB Bs)(F:List az):VS (Yg x::F) (dz IN [x]::F):=λβ w hs=>by
 have hc:=GA hs (aN.refl _);have h0:Yg x=own 5 1 x.2.1 x.1.length x.2.2 (x.1.flatMap λx=>[fO x]):=by grind [lD]
 exact bn2
theorem Uu:∀(q:List (WB Bs)) (F:List az),VS (q.map Yg++F) (dz IN q::F)
 |[],F=>λβ w hs=>hs.cd λ_ o iz=>⟨fL,o,cR _,cJ _,.refl _,λ_ _ x hx=>ua,iz⟩
 |x::q,F=>λβ w hs=>by
  have h1:=aV0 x (q.map Yg++F) β w hs;have h2:=h1.cd (di (b:=q.map Yg++(dz IN [x]::F)) (ee.symm));have h3:=Uu q _ β w h2;exact Yq
theorem ab9(q:List (WB Bs)){b:Frame}{β:bS}{k:Kt}{E:Env}{Hs F:List az}{R:Ending->List az->Prop}{cc:Option (Array Oper×List Oper)}[hf:FP Hs (cV (q.map Yg)) F]
 (h:X ab b β cc k E (dz IN q::F) R):X ab b β cc k E Hs R:=
 X.cd (hf.out.trans (gG _ _)) (wh (Uu q F) h)
structure MM where
 steps:List eH
 names:List Bs
structure MMI where
 ss:List (WB eH)
 sa:Option Addr
 sc:Nat
 na:Option Addr
 nc:Nat
@[reducible] def vs1(k:Bs):List Value:=[ao k]
@[reducible] def mmF(M:Nat)(m:MM)(p:MMI):List az:=[bx M 355 [.slice p.sa p.ss.length p.sc,.slice p.na m.names.length p.nc],own 266 5 p.sa p.ss.length p.sc (p.ss.flatMap db),dz eH.data p.ss,own 9 1 p.na m.names.length p.nc (m.names.flatMap vs1),pu (p.ss.map (·.1)=m.steps)]
def Ha(M:Nat)(m:MM):az:=ex (mmF M m)
structure MM.ok(m:MM)(L:Nat):Prop where
 steps:m.steps.length<=L
 names:m.names.length<=L
 name:∀s∈m.names,s.length<=1000000
theorem MM.ok.mono{m:MM}{L':Nat}(h:m.ok L)(hl:L<=L'):m.ok L':=⟨aj h.steps hl,aj h.names hl,h.name⟩
def MM.ahead(m:MM)(nm d:Bs):MM:=⟨m.steps++[⟨2,nm++ia,[],d,0⟩,⟨3,nm++ia,[],[],0⟩,⟨4,nm++ia,nm,[],0⟩],m.names++[nm]⟩
theorem qT{m:MM}(h:m.ok L)(d:Bs)(hn:nm.length<=1000000):(m.ahead nm d).ok (L+3):=by
 refine⟨?_,?_,?_⟩
 ·show(m.steps++_).length<=_;have:=h.steps;simp;omega
 ·show(m.names++_).length<=_;have:=h.names;simp;omega
 ·intro s hs
  have hs:s∈m.names++[nm]:=hs
  rcases cM.1 hs with hs|hs
  ·exact h.name s hs
  grind
theorem vP(L:Nat)(m:MM)(name data:Bs)(a:Option Addr)(n c:Nat)(hn:data.length=n)(hc:n<=c)(h0:a=none->n=0/\c=0)(hm:m.ok L)(hL:L<=890000000000)(wI:name.length<=1000000):
 TR ab G 340 #[au M,ao name,.slice a n c] [Ha M m,bV RB 1 a data] (cb λv B=>v=.tuple #[]/\B=[Ha M (m.ahead name data)]):=by
 subst hn
 refine jr U λb β hb hG=>?_
 have Ib:=hm.steps
 have hmn:=hm.names
 have had:m.ahead name data=⟨m.steps++[⟨2,name++ia,[],data,0⟩,⟨3,name++ia,[],[],0⟩,⟨4,name++ia,name,[],0⟩],m.names++[name]⟩:=U
 refine xJ (Qd G name av) ?_
 refine X.ma Ha M U λp=>?_
 obtain⟨ss,sa,sc,na,nc⟩:=p
 dsimp only[ae,ai,ah]
 refine lj λhp=>?_
 have sI:ss.length<=890000000000:=bE
 obtain⟨w1,Rn⟩:∃w:WB eH,w=(⟨2,name++ia,[],data,0⟩,a,c):=⟨_,U⟩
 obtain⟨w2,Ob⟩:∃w:WB eH,w=(⟨3,name++ia,[],[],0⟩,none,0):=⟨_,U⟩
 obtain⟨w3,hw3⟩:∃w:WB eH,w=(⟨4,name++ia,name,[],0⟩,none,0):=⟨_,U⟩
 refine Pz eH.data ⟨2,name++ia,[],data,0⟩ a c hc h0 ?_
 rw[<-Rn]
 refine wc eH.data ⟨3,name++ia,[],[],0⟩ U ?_
 rw[<-Ob]
 refine wc eH.data ⟨4,name++ia,name,[],0⟩ U ?_
 rw[<-hw3]
 refine A9 (data:=eH.data) [w2] [w3] ?_
 refine A9 (data:=eH.data) [w1] ([w2]++[w3]) ?_
 refine A9 (data:=eH.data) ss ([w1]++([w2]++[w3])) ?_
 have hq:(ss++([w1]++([w2]++[w3]))).map (·.1)=m.steps++[⟨2,name++ia,[],data,0⟩,⟨3,name++ia,[],[],0⟩,⟨4,name++ia,name,[],0⟩]:=by
  grind
 have hx:ss.flatMap db++(db w1++db w2++db w3)=(ss++([w1]++([w2]++[w3]))).flatMap db:=by
  grind
 rw[Rn,Ob,hw3]at hx
 have hl3:ss.length+3=(ss++([w1]++([w2]++[w3]))).length:=nH
 rw[<-Rn,<-Ob,<-hw3]at hx
 generalize ss++([w1]++([w2]++[w3]))=s2 at*
 rw[Rn,Ob,hw3]at hx
 clear Rn Ob hw3
 refine xZ ?_
 intro b22
 refine sA U U U U iA iA iA iA av λa23 c23=>?_
 refine aU0 (bo:=db) a23 s2 hx hl3 ?_
 rw[hl3]
 refine xZ ?_
 intro b32
 refine eD (name) U U U U av U iA iA iA iA iA av λa33 c33=>xS ?_
 rw[had]
 refine X.cd (dY hq _) ?_
 refine fi Ha M ⟨m.steps++[⟨2,name++ia,[],data,0⟩,⟨3,name++ia,[],[],0⟩,⟨4,name++ia,name,[],0⟩],m.names++[name]⟩ U ⟨s2,a23,c23,a33,c33⟩ ?_
 exact xF
theorem OE{d:Bs}(h:(hintOf d).2≠0):(hintOf d).1=[]:=by
 grind [hintOf]
def MM.fresh(m:MM):Bs:=(fH 1 (fW 1 m.names).1).1
def MM.writes(m:MM)(d:Bs):MM:=(m.ahead m.fresh d).ahead (eY m.fresh).1 (hintOf d).1
theorem OF(L:Nat)(m:MM)(data:Bs)(a:Option Addr)(n c:Nat)(hn:data.length=n)(hc:n<=c)(h0:a=none->n=0/\c=0)(hm:m.ok L)(hL:L<=880000000000)(hd:n<=1000000000):
 TR ab GG 230 #[au M,.slice a n c] [Ha M m,bV RB 1 a data] (cb λv B=>v=.tuple #[]/\B=[Ha M (m.writes data)]):=by
 subst hn
 refine aW U λb β hb hG=>?_
 have hmn:=hm.names
 have hmnm:=hm.name
 have pN:m.fresh.length<=1000:=qA _ _
 have tJ:=w6 m.fresh
 have gY:(fH 1 (fW 1 m.names).1).1=m.fresh:=U
 refine X.ma Ha M U λp=>?_
 obtain⟨ss,sa,sc,na,nc⟩:=p
 dsimp only[ae,ai,ah]
 refine lj λhp=>xS ?_
 refine ei hG (mf (e:=9) (c:=nc) (DP 1 na _ nc m.names U av (λs hs=>aj (hmnm s hs) av)) aZ3 U (λ_=>rfl)) U U U aN.es ?_
 rintro v B ⟨_,⟨rfl,rfl⟩,rfl⟩
 dsimp only[ae,ai,ah]
 refine X.cd (dY hp _) ?_
 refine fi Ha M m U ⟨ss,sa,sc,na,nc⟩  ?_
 refine xJ (yU 1 (fW 1 m.names).1) ?_
 rw[gY]
 refine xS ?_
 have hwr:m.writes data=(m.ahead m.fresh data).ahead (eY m.fresh).1 (hintOf data).1:=U
 have Vr:=@OE data
 refine ei hG (Ia GG a _ c data U hc hd) U U U iv ?_
 generalize hintOf data=W at*
 rintro v B (⟨hw,a8,c8,rfl,rfl⟩|⟨hw,rfl,rfl⟩)
 ·dsimp only[ae,ai,ah];refine ni a8 λh8 _=>?_;refine iE a8 (l:=W.1) U λhc8=>?_;refine xJ (vE m.fresh av) ?_;refine ei hG (vP GG M L m m.fresh data a _ c U hc h0 hm av av) U U U iv ?_;rintro v B ⟨rfl,rfl⟩;refine xD ?_;refine ei hG (vP GG M (L+3) (m.ahead m.fresh data) (eY m.fresh).1 W.1 a8 _ c8 U hc8 h8 (qT hm data av) av av) U U U iv ?_;rintro v B ⟨rfl,rfl⟩;refine xD ?_;rw[<-hwr];exact xF
 ·dsimp only[ae,ai,ah];refine jl UInt8 RB 1  ?_;refine xJ (vE m.fresh av) ?_;refine ei hG (vP GG M L m m.fresh data a _ c U hc h0 hm av av) U U U iv ?_;rintro v B ⟨rfl,rfl⟩;refine xD ?_;refine ei hG (vP GG M (L+3) (m.ahead m.fresh data) (eY m.fresh).1 [] none 0 0 U (ar _) (λ_=>⟨U,U⟩) (qT hm data av) av av) U U U iv ?_;rintro v B ⟨rfl,rfl⟩;refine xD ?_;rw[Vr hw]at hwr;rw[<-hwr];exact xF
def MM.gw(m:MM)(s:nD):MM:=
 if m.names.contains (eY s.iD.name).1=true then⟨m.steps++[⟨1,(eY s.iD.name).1,[],[],0⟩]++[⟨1,s.iD.name,[],[],0⟩],m.names⟩else⟨m.steps++[⟨1,s.iD.name,[],[],0⟩],m.names⟩
theorem Lz(L:Nat)(m:MM)(x:nN)(hm:m.ok L)(hL:L<=880000000000)(hn:x.1.iD.name.length<=1000000):
 TR ab GG 231 #[au M,.agg (nN.cs x).toArray] [Ha M m] (cb λv B=>v=.tuple #[]/\B=[Ha M (m.gw x.1)]):=by
 refine aW U λb β hb hG=>?_
 have Ib:=hm.steps
 have hmn:=hm.names
 have hmnm:=hm.name
 refine xP ?_
 intro b3
 refine xJ (vE x.1.iD.name av) ?_
 refine X.ma Ha M U λp=>?_
 obtain⟨ss,sa,sc,na,nc⟩:=p
 dsimp only[ae,ai,ah]
 refine lj λhp=>?_
 have sI:ss.length<=L:=bE
 refine xS ?_
 refine bw (mf (e:=9) (c:=nc) (Df GG na _ nc m.names (eY x.1.iD.name).1 U av) aZ3 U (λ_=>rfl)) ?_
 rintro v B ⟨_,⟨rfl,rfl⟩,rfl⟩
 refine xD ?_
 have key:∀(nm:Bs) (ss:List (WB eH)),(ss++[((⟨1,nm,[],[],0⟩,none,0):WB eH)]).map (·.1)=ss.map (·.1)++[⟨1,nm,[],[],0⟩]:=bE
 refine tU [0,3] [1,1,1] (ι:={z:(Option Addr×Nat)×List (WB eH) // z.2.length<=L+1/\(⟨z.2.map (·.1)++[⟨1,x.1.iD.name,[],[],0⟩],m.names⟩:MM)=m.gw x.1}) (λz q_=>q_) (λz q_=>bx M 355 [.slice z.1.1.1 z.1.2.length z.1.1.2,.slice na m.names.length nc]::own 266 5 z.1.1.1 z.1.2.length z.1.1.2 (z.1.2.flatMap db)::dz eH.data z.1.2::q_) ?fin ?main
 case main=>
  intro KK dW;refine xB ?_ ?_<;>intro h
  ·have h:m.names.contains (eY x.1.iD.name).1=true:=h;obtain⟨nm,wI⟩:∃nm,nm=(eY x.1.iD.name).1:=⟨_,U⟩;rw[<-wI]at h;have hrm:m.gw x.1=⟨m.steps++[⟨1,nm,[],[],0⟩]++[⟨1,x.1.iD.name,[],[],0⟩],m.names⟩:=by
    grind [MM.gw]
   rw[<-wI];refine xZ ?_;intro Yh;refine eD (((⟨1,nm,[],[],0⟩,none,0):WB eH)) U U U U av U iA iA iA iA iA av λa27 c27=>xS ?_;refine wc eH.data ⟨1,nm,[],[],0⟩ U ?_;refine A9 (data:=eH.data) ss [((⟨1,nm,[],[],0⟩,none,0):WB eH)] ?_;exact X.W (dW ⟨((a27,c27),ss++[((⟨1,nm,[],[],0⟩,none,0):WB eH)]),by simp;omega,by grind⟩)
  ·have h:¬m.names.contains (eY x.1.iD.name).1=true:=by grind
   have hrm:m.gw x.1=⟨m.steps++[⟨1,x.1.iD.name,[],[],0⟩],m.names⟩:=by
    grind [MM.gw]
   refine xS ?_;exact X.W (dW ⟨((sa,sc),ss),by grind,by rw[hrm,hp]⟩)
 case fin=>
  clear hp sI;rintro⟨⟨⟨sa,sc⟩,ss⟩,sI,hrm⟩;dsimp only at sI hrm ⊢;rw[<-hrm];refine xS ?_;refine eR 9 [0,4] ?_;refine xL [0,1,2,3,4,5,6,7,8] ?_;refine xZ ?_;intro b39;refine eD (((⟨1,x.1.iD.name,[],[],0⟩,none,0):WB eH)) U U U U av U iA iA iA iA iA av λa40 c40=>xS ?_;refine wc eH.data ⟨1,x.1.iD.name,[],[],0⟩ U ?_;refine A9 (data:=eH.data) ss [((⟨1,x.1.iD.name,[],[],0⟩,none,0):WB eH)] ?_;refine X.cd (dY (key x.1.iD.name ss) _) ?_;refine fi Ha M ⟨ss.map (·.1)++[⟨1,x.1.iD.name,[],[],0⟩],m.names⟩ U ⟨ss++[((⟨1,x.1.iD.name,[],[],0⟩,none,0):WB eH)],a40,c40,na,nc⟩ ?_;exact xF
theorem a09(x:nN)(a:Option Addr)(n c:Nat)(ys:Bs)(hn:ys.length=n):
 TR ab G 228 #[.agg (nN.cs x).toArray,.slice a n c] [bV RB 1 x.2.1.1 x.1.iD.data,bV RB 1 a ys] (cT (.bool (x.1.iD.data==ys))):=by
 refine aW U λb β hb hG=>?_
 refine xP ?_
 intro b2
 refine xJ (GX G x.2.1.1 a _ x.2.1.2 n c x.1.iD.data ys U hn) ?_
 exact xR
theorem Th(c:Nat)(q:List nN)(hn:q.length=n)(hs:n<=1000000000000)(a2:Option Addr)(m c2:Nat)(Z:List (WB Bs))(hm:Z.length=m):
 TR ab G 227 #[.slice a n c,.slice a2 m c2,.func (.func 228) #[] #[]] [bV (bp nN.cs) 5 a q,Fo q,bV (bp bsE) 1 a2 Z,dz IN Z] (cT (.bool (decide (q.map (λx=>x.1.iD.data)=Z.map (·.1))))):=by
 subst hn hm
 refine jr U λb β hb hG=>?_
 refine xB ?_ ?_<;>intro h
 ·have h:q.length≠Z.length:=by grind
  have me:¬q.map (λx=>x.1.iD.data)=Z.map (·.1):=λhe=>h (by have:=congrArg dq he;grind);exact ad6
 have h:q.length=Z.length:=bE
 refine xS ?_
 refine eT [1,2,15] [] (ι:={i:Nat // i<=q.length/\(q.map (λx=>x.1.iD.data)).take i=(Z.map (·.1)).take i}) (λi q_=>(16,aX q.length)::(17,aX i.1)::q_) (λi q_=>q_) (λi=>q.length - i.1) ⟨0,al _,U⟩ ?_
 rintro⟨i,hi,hE⟩ ih
 dsimp only at hi hE ih ⊢
 refine xB ?_ ?_<;>intro h2
 ·have hi:i<q.length:=by grind
  have FL:i<Z.length:=av;have iq:=aB hi;have hmem2:=aB FL;have hE1:(q.map (λx=>x.1.iD.data)).take (i+1)=(Z.map (·.1)).take i++[q[i].1.iD.data]:=by
   grind [aY]
  have VN:(Z.map (·.1)).take (i+1)=(Z.map (·.1)).take i++[Z[i].1]:=by
   grind [aY]
  refine av7 q q[i] iq λ_ _=>?_;refine oI (data:=IN) Z Z[i] hmem2 λ_ _=>xS ?_;refine cH U U U U U hi U λbl o=>?_;generalize q[i]=x at*;refine xS ?_;refine dF U U U U  ?_;refine xA ?_;intro b8;refine cH U U U U U FL U λVM o2=>?_;generalize Z[i]=y at*;refine xS ?_;refine ng (fst:=[]) (us:=[_,_]) (cap:=[]) hG (a09 G x y.2.1 _ y.2.2 y.1 U) U U U U  ?_;refine xB ?_ ?_<;>intro h3
  ·have h3:¬x.1.iD.data=y.1:=by grind
   have me:¬q.map (λx=>x.1.iD.data)=Z.map (·.1):=by
    grind [List.append_cancel_left]
   exact ad6
  ·have h3:x.1.iD.data=y.1:=by grind
   refine xS ?_;exact X.W (ih ⟨i+1,by omega,by grind⟩ bE)
 ·have fw:i=q.length:=by grind
  subst fw;rw[aD nH,aD bB]at hE;refine xS ?_;exact bO hb (.tmps U) ⟨by simp[lx,hE],U⟩
def Hb(l:List bn):List nD:=(u6 l).filter λs=> !(!s.iP)
def u9(l:List bn):List Rec:=(pC (u6 l)).kept
def B6(l:List bn)(iP:List nD)(fresh:List Bs):MM:=
 if iP.map (λs=>s.iD.data)=fresh then⟨[],[]⟩
 else iP.foldl MM.gw (fresh.foldl MM.writes ⟨[],l.map (·.name)⟩)
def pq(l:List bn)(size cap:Int):Except Int (List eH):=
 if(decide (64<=size)&&decide (size<=1048576))=false then .error 140
 else if lI l=false\/cap<0\/cap>4194304\/(aZ l:Int)>cap then .error 110
 else if(sW l (B6 l (Hb l) (pD (u9 l) size)).steps:Int)>cap then .error 111
 else .ok (B6 l (Hb l) (pD (u9 l) size)).steps
def MgR(r:Except Int (List eH))(v:Value)(B:List az):Prop:=match r with
 |.error e=>v=.tuple #[.agg z183.toArray,.int .i64 e]/\B=[]
 |.ok z=>∃ss:List (WB eH),∃sa sc fa fn fc,∃t f p:Int,ss.map (·.1)=z/\v=.tuple #[.agg #[.slice sa ss.length sc,.slice fa fn fc,.int .u64 t,.int .i64 f,.int .i64 0,.int .i64 p],.int .i64 0]/\B=[bV (bp db) 5 sa ss,dz eH.data ss]
theorem BG(l:List Rec):(mw l).length<=l.length:=by
 grind [mw,ny,jh,uW,s9]
theorem EE:c.kept.length<=c.all.length:=by
 grind [wB.kept,jS,BG]
theorem Hc{f:bn}(h:S9 f=some s):s.iD=f/\s.qP.length<=f.data.length:=by
 grind [S9,fV,lS]
theorem Ti:zm (u3 l)<=aZ l:=by
 induction l with
 |nil=>exact al _
 |cons f r ih=>
  have h1:aZ (f::r)=f.data.length+aZ r:=KD;unfold u3 at ih ⊢;rw[h1,eI];split
  ·omega
  ·rename_i s hs
   have h2:=(Hc hs).2
   grind [zm]
theorem Hd{l l':List nD}(h:l.Perm l'):zm l=zm l':=by
 grind [zm]
theorem He:zm (u6 l)<=aZ l:=by
 grind [u6,Hd,iT,Ti]
theorem Tj{l:List bn}(h:s∈u6 l):s.iD∈l:=by
 have h1:=(iT _ _).mem_iff.1 h;obtain⟨f,hf,h2⟩:=List.mem_filterMap.1 h1;rw[(Hc h2).1];exact hf
theorem Hf:(u6 l).length<=l.length:=by
 unfold u6;rw[jS];exact List.length_filterMap_le _ _
theorem CN{m:MM}(h:m.ok L)(d:Bs):(m.writes d).ok (L+6):=by
 have h1:=qT h (nm:=m.fresh) d (aj (qA _ _) de);exact qT h1 (nm:=(eY m.fresh).1) (hintOf d).1 (aj (w6 _) de)
theorem BO(m:MM)(d:Bs):iM (m.writes d).steps<=iM m.steps+d.length+50000000000:=by
 have h1:=w5 d
 have h2:∀(m:MM) (nm d:Bs),iM (m.ahead nm d).steps=iM m.steps+d.length:=by
  intro m nm d
  show iM (m.steps++_)=_
  grind [iM]
 grind [MM.writes]
theorem BN{m:MM}(h:m.ok L)(s:nD):(m.gw s).ok (L+2):=by
 have h1:=h.steps;unfold MM.gw;split
 ·exact aE1
 ·exact aE1
theorem zR(m:MM)(s:nD):iM (m.gw s).steps=iM m.steps:=by
 grind [MM.gw,iM]
theorem tf:∀(fresh:List Bs) (m:MM) (L:Nat),m.ok L->(fresh.foldl MM.writes m).ok (L+6*fresh.length)/\iM (fresh.foldl MM.writes m).steps<=iM m.steps+(fresh.map dq).sum+50000000000*fresh.length
 |[],m,L,h=>⟨h,by simp⟩
 |d::r,m,L,h=>by
  have h1:=tf r (m.writes d) (L+6) (CN h d);have h2:=BO m d;rw[cY,ax,aK,eC];exact⟨h1.1.mono av,by have:=h1.2;omega⟩
theorem va:∀(iP:List nD) (m:MM) (L:Nat),m.ok L->(iP.foldl MM.gw m).ok (L+2*iP.length)/\iM (iP.foldl MM.gw m).steps=iM m.steps
 |[],m,L,h=>⟨h,U⟩
 |s::r,m,L,h=>by
  have h1:=va r (m.gw s) (L+2) (BN h s);have h2:=zR m s;rw[cY,ax];exact⟨h1.1.mono av,by rw[h1.2,h2]⟩
theorem Qp(fresh:List Bs)(hn:∀f∈l,f.name.length<=1000000):(B6 l iP fresh).ok (l.length+6*fresh.length+2*iP.length)/\iM (B6 l iP fresh).steps<=(fresh.map dq).sum+50000000000*fresh.length:=by
 unfold B6;split
 ·exact⟨⟨al _,al _,λs hs=>by cases hs⟩,al _⟩
 ·have h0:MM.ok ⟨[],l.map (·.name)⟩ l.length:=⟨al _,by simp,λs hs=>by
   grind⟩
  have h1:=tf fresh _ _ h0
  have h2:=va iP _ _ h1.1
  grind [iM]
theorem LA{size:Int}(hs:size<=1048576)(l:List Rec):∀x∈pD l size,x.length<=1048576:=by
 have key:∀(l:List Rec) (out:List Bs),(∀x∈out,x.length<=1048576)->∀x∈l.foldl (pk size) out,x.length<=1048576:=by
  intro l;induction l with
  |nil=>exact λout h=>h
  |cons r t ih=>
   intro out h;rw[cY];refine ih _ ?_;unfold pk;split
   ·exact h
   ·rename_i h1;have hl:=mT (fj r) Ic;split
    ·intro x hx;rcases cM.1 hx with hx|hx
     ·exact h x hx
     ·rw[bD.1 hx];omega
    ·rename_i h2;intro x hx;rcases List.mem_or_eq_of_mem_set hx with hx|hx
     ·exact h x hx
     ·rw[hx,aG];have:¬((G' out).length+(mS (fj r)).length:Int)>size:=λh=>h2 (.inr h);omega
 exact key l [] (λx hx=>by cases hx)
theorem Tk(cap:Int)(a:Option Addr)(n c:Nat)(q:List (WB bn))(hn:q.length=n)(hs:n<=50000000000)(h0:a=none->n=0/\c=0)(hu:aZ (q.map (·.1))<=1000000000000):
 TR ab GG 144 #[.slice a n c,.int .i64 size,.int .i64 cap] [bV (bp bG) 2 a q,dz bn.data q] (cb (MgR (pq (q.map (·.1)) size cap))):=by
 subst hn
 refine jr U λb β hb hG=>?_
 generalize bu:pq (q.map (·.1)) size cap=res
 unfold pq at bu
 refine xA ?_
 intro b6
 refine xB ?_ ?_<;>intro h1
 ·have h1:(decide (64<=size)&&decide (size<=1048576))=false:=by simp at h1 ⊢;omega
  rw[if_pos h1]at bu;exact ah1
 have h1:¬(decide (64<=size)&&decide (size<=1048576))=false:=by simp at h1 ⊢;omega
 rw[if_neg h1]at bu
 refine xS ?_
 refine jl (WB eH) (bp db) 5 ?_
 refine Pv eH.data ?_
 refine xJ (D9 GG a _ c q U none 0 0 [] U h0 av (by simp[iM];omega)) ?_
 have hpk0:sW (q.map (·.1)) []=aZ (q.map (·.1)):=U
 rw[ie,hpk0]
 refine xS ?_
 have hpa:∀l,pP (q.map (·.1)) (([]:List (WB eH)).map (·.1))=some l->aZ l<=1000000000000:=by
  intro l hl;unfold pP at hl;split at hl
  ·cases hl;rw[nx];exact hu
  ·cases hl
 refine ei hG (GW GG a _ c q U none 0 0 [] U h0 av hu hpa) U U U iv ?_
 clear hpa
 unfold pP
 cases qO:lI (q.map (·.1))with
 |false=>
  rw[if_pos (.inl qO)]at bu;subst bu;simp only[bY,if_false];rintro v B ⟨rfl,rfl⟩;refine xD ?_;exact bO hb (.gX U iA (.tmp U .nil)) ⟨U,U⟩
 |true=>
 simp only[if_true]
 rw[show Option.map pA (uT (q.map (·.1)) (List.map (λx:WB eH=>x.1) []))=some (pA (q.map (·.1)))from rfl]
 rintro v B ⟨a3,c3,q',_,rfl,rfl⟩
 refine xD ?_
 refine xT 44 ?_ ?_<;>intro h2
 ·have h2:cap<0:=by simpa using h2
  rw[if_pos (.inr (.inl h2))]at bu;exact ah1
 have h2:¬cap<0:=FG
 refine xT 48 ?_ ?_<;>intro h3
 ·have h3:cap>4194304:=by simpa using h3
  rw[if_pos (.inr (.inr (.inl h3)))]at bu;exact ah1
 have h3:¬cap>4194304:=OR
 refine xB ?_ ?_<;>intro h4
 ·have h4:(aZ (q.map (·.1)):Int)>cap:=by simpa using h4
  rw[if_pos (.inr (.inr (.inr h4)))]at bu;exact ah1
 have h4:¬(aZ (q.map (·.1)):Int)>cap:=by simpa using h4
 rw[if_neg (by simp[qO];omega)]at bu
 obtain⟨dp,jd⟩:=zi qO
 have hus:aZ (q.map (·.1))<=4194304:=av
 have XA:∀x∈q,x.1.name.length<=1000000/\x.1.data.length<=1000000000:=bC3
 have sY:∀f∈q.map (·.1),f.name.length<=1000000:=λf hf=>aj (jT (dp f hf)) de
 refine xS ?_
 refine ei hG (Ya a _ c q U av XA) U U U iv ?_
 rintro v B ⟨FH,Z1,q6,hq6,rfl,rfl⟩
 dsimp only[ae,ai,ah]
 have Kc:=He (q.map (·.1))
 have hq6l:q6.length<=q.length:=by
  have h1:=congrArg dq hq6;have h2:=Hf (q.map (·.1));rw[aA]at h1 h2;omega
 have hmem6:∀x∈q6,x.1.iD.name.length<=1000000:=by
  intro x hx;have h1:x.1∈u6 (q.map (·.1)):=by rw[<-hq6];exact bj.2 ⟨x,hx,U⟩
  exact sY _ (Tj h1)
 have hold:Hb (q.map (·.1))=(q6.filter λx=> !(!x.1.iP)).map (·.1):=by
  unfold Hb;rw[<-hq6,List.filter_map];rfl
 have PY:u9 (q.map (·.1))=(pC (q6.map (·.1))).kept:=by unfold u9;rw[hq6]
 rw[hold,PY]at bu
 rw[<-hq6]at Kc
 have wm:=se (q6.map (·.1))
 refine xS ?_
 refine ei hG (mf (e:=349) (c:=Z1) (a06 GG FH _ Z1 q6 U av av) (by rintro v B ⟨C,_,rfl⟩;infer_instance) U (λ_=>rfl)) U U U iv ?_
 rintro v B ⟨_,⟨C,rfl,rfl⟩,rfl⟩
 dsimp only[ae,ai,ah]
 have Ud:=EE (pC (q6.map (·.1)))
 have N7:=BG (pC (q6.map (·.1))).all
 refine xS ?_
 refine ei hG (ao1 GG C (pC (q6.map (·.1))) av) U U U iv ?_
 rintro v B ⟨Ni,c13,rfl,rfl⟩
 dsimp only[ae,ai,ah]
 rw[wm]at Ud
 generalize(pC (q6.map (·.1))).kept=K at*
 refine X.ma oZ C U λI=>?_
 dsimp only[ae,ai,ah]
 dsimp only[wB.cs]
 refine xA ?_
 intro K7
 generalize(pC (q6.map (·.1))).top.toNat=top at*
 refine jc ([]:List az) ?_
 refine xQ (X7 GG 225 [] [] (hA:=⟨λp hp=>by rw[bD.1 hp];exact Ct inferInstance⟩) (λx:nN=> !x.1.iP) FH _ Z1 q6 U av (λx _=>S8 GG x)) ?_
 refine av2 q6 (q6.filter λx=> !(!x.1.iP)) (λy hy=>(dZ.1 hy).1) ?_
 have hol:(q6.filter λx=> !(!x.1.iP)).length<=q.length:=aj (dD _ _) hq6l
 have hom:∀x∈q6.filter (λx=> !(!x.1.iP)),x.1.iD.name.length<=1000000:=λx hx=>hmem6 x (dZ.1 hx).1
 generalize q6.filter (λx=> !(!x.1.iP))=iP at*
 refine dE FH nN.cs iP U U (λ_=>rfl) λ_=>?_
 refine dE Ni Rec.cs K U U (λ_=>rfl) λ_=>xS ?_
 refine X.cd (ej 270 5 _) ?_
 refine X.loop (ι:={z:Nat×(Option Addr×Nat)×List Value // z.1<=iP.length}) (λz=>([(0,.slice a q.length c),(1,.int .i64 size),(2,.int .i64 cap),(6,au b6),(13,.slice Ni K.length c13),(14,au K7),(15,.slice FH iP.length Z1),(69,.slice FH iP.length Z1),(70,aX iP.length),(71,aX z.1.1)],[own 270 5 z.1.2.1.1 z.1.1 z.1.2.1.2 z.1.2.2,bx K7 89 [.slice z.1.2.1.1 z.1.1 z.1.2.1.2,.int .u64 top,.int .i64 K.length,.int .i64 0],bV (bp nN.cs) 5 FH iP,Fo iP,bV (bp Rec.cs) 4 Ni K,bx b6 183 z183,bV (bp bG) 2 a q,dz bn.data q])) (λz=>iP.length - z.1.1) ⟨(0,(none,0),[]),al _⟩ (Sub.of U) (show aN _ [own 270 5 none 0 0 [],bx K7 89 [.slice none 0 0,.int .u64 top,.int .i64 K.length,.int .i64 0],bV (bp nN.cs) 5 FH iP,Fo iP,bV (bp Rec.cs) 4 Ni K,bx b6 183 z183,bV (bp bG) 2 a q,dz bn.data q]from ay) ?_
 rintro⟨⟨i,⟨fa,fc⟩,fx⟩,hi⟩ ih
 dsimp only at hi ih ⊢
 refine xB ?_ ?_<;>intro h5
 ·have hi:i<iP.length:=by simp at h5;omega
  refine xS ?_;refine cH U U U U U hi U λbl o=>?_;generalize iP[i]=x at*;refine xS ?_;refine dF U U U U  ?_;refine xA ?_;intro b17;refine xZ ?_;intro b81;refine sA U U U U iA iA iA iA av λa82 c82=>xS ?_;exact X.W (ih ⟨(i+1,(a82,c82),fx++[ao x.1.iD.name,.int .i64 1,.slice none 0 0,ao [],.int .i64 0]),by dsimp only;omega⟩ gm)
 have fw:i=iP.length:=an6
 subst fw
 clear ih h5 hi
 refine xS ?_
 refine ei hG (Tg GG Ni _ c13 K size U av) U U U iv ?_
 rintro v B ⟨a5,c5,Z,hZ,rfl,rfl⟩
 dsimp only[ae,ai,ah]
 have hpo:=ED size K
 have SH:=Qp (q.map (·.1)) (iP.map (·.1)) (pD K size) sY
 rw[<-hZ]at hpo SH bu
 have Mn:B6 (q.map (·.1)) (iP.map (·.1)) (Z.map (·.1))=if iP.map (λx=>x.1.iD.data)=Z.map (·.1)then⟨[],[]⟩else(iP.map (·.1)).foldl MM.gw ((Z.map (·.1)).foldl MM.writes ⟨[],(q.map (·.1)).map (·.name)⟩):=by
  unfold B6;rw[cz];rfl
 generalize B6 (q.map (·.1)) (iP.map (·.1)) (Z.map (·.1))=MF at*
 rw[aA]at hpo
 simp only[aA]at SH
 have BT:∀z∈Z,z.1.length<=1048576:=λz hz=>LA (size:=size) bk7 K _ (by rw[<-hZ];exact bj.2 ⟨z,hz,U⟩)
 refine dE a5 bsE Z U U (λ_=>rfl) λ_=>?_
 refine ab9 Z  ?_
 refine xP ?_
 intro Je
 refine xJ (Th GG FH _ Z1 iP U av a5 _ c5 Z U) ?_
 refine X.cd (ej 266 5 _) ?_
 refine X.cd (ej 9 1 _) ?_
 refine Pv eH.data ?_
 refine X.cd (dY (p:=([]:List (WB eH)).map (·.1)=(⟨[],[]⟩:MM).steps) U _) ?_
 refine X.cd (Hs':=[pu (([]:List (WB eH)).map (·.1)=(⟨[],[]⟩:MM).steps),dz eH.data [],own 9 1 none (⟨[],[]⟩:MM).names.length 0 ((⟨[],[]⟩:MM).names.flatMap vs1),own 266 5 none ([]:List (WB eH)).length 0 (([]:List (WB eH)).flatMap db),bx Je 355 [.slice none ([]:List (WB eH)).length 0,.slice none (⟨[],[]⟩:MM).names.length 0],bx K7 89 [.slice fa iP.length fc,.int .u64 top,.int .i64 K.length,.int .i64 0],bV (bp nN.cs) 5 FH iP,Fo iP,bV (bp bsE) 1 a5 Z,dz IN Z,bx b6 183 z183,bV (bp bG) 2 a q,dz bn.data q]) (show aN _ [pu (([]:List (WB eH)).map (·.1)=(⟨[],[]⟩:MM).steps),dz eH.data [],own 9 1 none 0 0 [],own 266 5 none 0 0 [],bx Je 355 [.slice none 0 0,.slice none 0 0],bx K7 89 [.slice fa iP.length fc,.int .u64 top,.int .i64 K.length,.int .i64 0],bV (bp nN.cs) 5 FH iP,Fo iP,bV (bp bsE) 1 a5 Z,dz IN Z,bx b6 183 z183,bV (bp bG) 2 a q,dz bn.data q]from ay) ?_
 refine fi Ha Je ⟨[],[]⟩ U ⟨[],none,0,none,0⟩ (xS ?_)
 have hMF:MF.ok (q.length+6*Z.length+2*iP.length):=SH.1
 refine tU [0,2,6,14,19] [0,1,1,1,1] (ι:=Unit) (λ_ q_=>q_) (λ_ q_=>Ha Je MF::q_) ?fin ?main
 case main=>
  intro KK dW;refine xB ?_ ?_<;>intro he
  ·have he:¬iP.map (λx=>x.1.iD.data)=Z.map (·.1):=by simpa using he
   rw[if_neg he]at Mn;refine xS ?_;refine eT [0,2,6,14,15,18,19,94] [0] (ι:={i:Nat // i<=q.length}) (λi q_=>(95,aX q.length)::(96,aX i.1)::q_) (λi q_=>Ha Je ⟨[],((q.map (·.1)).take i.1).map (·.name)⟩::q_) (λi=>q.length - i.1) ⟨0,al _⟩ ?_;rintro⟨i,hi⟩ ih;dsimp only at hi ih ⊢;refine xB ?_ ?_<;>intro h5
   ·have hi:i<q.length:=by simp at h5;omega
    have vy:((q.map (·.1)).take (i+1)).map (·.name)=((q.map (·.1)).take i).map (·.name)++[q[i].1.name]:=by
     rw[aY,dO,aV hi,cq];rfl
    have Fj:(((q.map (·.1)).take i).map (·.name)).length<=q.length:=Dl;generalize((q.map (·.1)).take i).map (·.name)=nl at*;refine xS ?_;refine cH U U U U U hi U λbl o=>?_;generalize q[i]=x at*;refine xS ?_;refine dF U U U U  ?_;refine xA ?_;intro b21;refine X.ma Ha Je U λp=>?_;obtain⟨ss,sa,sc,na,nc⟩:=p;dsimp only[ae,ai,ah];refine lj λhp=>?_;refine eR 7 [0,4] ?_;refine xL [0,1,2,3,4,5,6] ?_;refine xZ ?_;intro b107;refine eD (x.1.name) U U U U SZ U iA iA iA iA iA av λa108 c108=>xS ?_;refine X.cd (dY hp _) ?_;refine fi Ha Je ⟨[],nl++[x.1.name]⟩ U ⟨ss,sa,sc,a108,c108⟩ ?_;rw[<-vy];exact aH9
   have fw:i=q.length:=an6;subst fw;rw[aD nH];have Ym:MM.ok ⟨[],(q.map (·.1)).map (·.name)⟩ q.length:=⟨al _,by simp,λs hs=>by
    obtain⟨f,hf,rfl⟩:=bj.1 hs;exact sY f hf⟩
   generalize(⟨[],(q.map (·.1)).map (·.name)⟩:MM)=m0 at*;clear ih h5 hi;refine xS ?_;refine eT [0,2,6,14,15,18,19,112] [0] (ι:={i:Nat // i<=Z.length}) (λi q_=>(113,aX Z.length)::(114,aX i.1)::q_) (λi q_=>Ha Je (((Z.map (·.1)).take i.1).foldl MM.writes m0)::q_) (λi=>Z.length - i.1) ⟨0,al _⟩ ?_;rintro⟨i,hi⟩ ih;dsimp only at hi ih ⊢;have hwo:=(tf ((Z.map (·.1)).take i) m0 q.length Ym).1;rw[cB,aA]at hwo;refine xB ?_ ?_<;>intro h5
   ·have hi:i<Z.length:=by simp at h5;omega
    have hzi:=BT _ (aB hi);have vy:((Z.map (·.1)).take (i+1)).foldl MM.writes m0=(((Z.map (·.1)).take i).foldl MM.writes m0).writes Z[i].1:=aM5;refine oI (data:=IN) Z Z[i] (aB hi) λjz mD=>?_;generalize((Z.map (·.1)).take i).foldl MM.writes m0=m1 at*;refine xS ?_;refine cH U U U U U hi U λbl o=>?_;generalize Z[i]=z at*;refine xQ (OF Je _ m1 z.1 z.2.1 _ z.2.2 U jz mD hwo av av) ?_;exact bu7
   have fw:i=Z.length:=an6;subst fw;rw[aD nH];have py:=(tf (Z.map (·.1)) m0 q.length Ym).1;rw[aA]at py;generalize(Z.map (·.1)).foldl MM.writes m0=m1 at*;clear ih h5 hi hwo;refine xS ?_;refine eT [0,2,6,14,15,18,19,122] [0] (ι:={i:Nat // i<=iP.length}) (λi q_=>(123,aX iP.length)::(124,aX i.1)::q_) (λi q_=>Ha Je (((iP.map (·.1)).take i.1).foldl MM.gw m1)::q_) (λi=>iP.length - i.1) ⟨0,al _⟩ ?_;rintro⟨i,hi⟩ ih;dsimp only at hi ih ⊢;have hwo:=(va ((iP.map (·.1)).take i) m1 _ py).1;rw[cB,aA]at hwo;refine xB ?_ ?_<;>intro h5
   ·have hi:i<iP.length:=by simp at h5;omega
    have hoi:=hom _ (aB hi);have vy:((iP.map (·.1)).take (i+1)).foldl MM.gw m1=(((iP.map (·.1)).take i).foldl MM.gw m1).gw iP[i].1:=aM5;generalize((iP.map (·.1)).take i).foldl MM.gw m1=m2 at*;refine xS ?_;refine cH U U U U U hi U λbl o=>?_;generalize iP[i]=x at*;refine xS ?_;refine dF U U U U  ?_;refine xA ?_;intro b25;refine xQ (Lz Je _ m2 x hwo av hoi) ?_;exact bu7
   have fw:i=iP.length:=an6;subst fw;rw[aD nH,<-Mn];exact aB3
  ·have he:iP.map (λx=>x.1.iD.data)=Z.map (·.1):=by simpa using he
   rw[if_pos he]at Mn;rw[Mn]at dW;exact aB3
 case fin=>
  intro _
  clear Mn
  refine X.ma Ha Je U λp=>?_
  obtain⟨ss,sa,sc,na,nc⟩:=p
  dsimp only[ae,ai,ah]
  refine lj λhp=>?_
  have hp:ss.map (·.1)=MF.steps:=hp
  have hssl:ss.length<=1000000000000:=by
   have:=hMF.steps;rw[<-hp,aA]at this;omega
  refine dE sa db ss U U (λ_=>rfl) λ_=>xS ?_
  refine tU [2,6] [1,2,2,3,3] (ι:=Nat) (λYh q_=>(26,au Yh)::q_) (λYh q_=>bx Yh 183 [.slice sa ss.length sc,.slice fa iP.length fc,.int .u64 top,.int .i64 K.length,.int .i64 0,.int .i64 ((sW (q.map (·.1)) (ss.map (·.1)):Nat):Int)]::q_) ?f2 ?m2
  case m2=>
   intro KK dW;refine eR 10 [1,4] ?_;refine xL [0,1,2,3,4,5,6,7,8,9] ?_;refine dA U U U U U ?_ ?_
   ·refine xJ (D9 GG a _ c q U sa _ sc ss U h0 ao6 (by rw[hp];have:=SH.2;omega)) ?_;refine dA U U U U U ?_ ?_
    ·refine xA ?_;intro Yh;exact X.W (dW Yh)
    ·refine xA ?_;intro Yh;exact X.W (dW Yh)
   ·refine xA ?_;intro Yh;refine xJ (D9 GG a _ c q U sa _ sc ss U h0 ao6 (by rw[hp];have:=SH.2;omega)) ?_;exact X.W (dW Yh)
  case f2=>
   intro Yh;rw[hp];refine xB ?_ ?_<;>intro h5
   ·have h5:(sW (q.map (·.1)) MF.steps:Int)>cap:=by simpa using h5
    rw[if_pos h5]at bu;exact ah1
   ·have h5:¬(sW (q.map (·.1)) MF.steps:Int)>cap:=by simpa using h5
    rw[if_neg h5]at bu;subst bu;refine xS ?_;exact bO hb (.gX U iA (.tmp U .nil)) ⟨ss,sa,sc,fa,_,fc,_,_,_,hp,U,U⟩
theorem OG{l:List bn}{size cap:Int}{e:Int}(h:pq l size cap=.error e):e≠0:=by
 grind [pq]
theorem A4{m:MM}{N:Nat}{d:Bs}(h:∀s∈m.steps,s.data.length<=N)(hd:d.length<=N):∀s∈(m.ahead nm d).steps,s.data.length<=N:=by
 intro s hs
 have hs:s∈m.steps++[⟨2,nm++ia,[],d,0⟩,⟨3,nm++ia,[],[],0⟩,⟨4,nm++ia,nm,[],0⟩]:=hs
 grind
theorem ao8(fresh:List Bs)(hf:∀d∈fresh,d.length<=50000000000):∀s∈(B6 l iP fresh).steps,s.data.length<=50000000000:=by
 have kw:∀(fresh:List Bs) (m:MM),(∀d∈fresh,d.length<=50000000000)->(∀s∈m.steps,s.data.length<=50000000000)->∀s∈(fresh.foldl MM.writes m).steps,s.data.length<=50000000000:=by
  intro fresh;induction fresh with
  |nil=>grind
  |cons d r ih=>
   intro m hf h;rw[cY];refine ih _ (λd hd=>hf d (List.mem_cons_of_mem _ hd)) ?_;unfold MM.writes;exact A4 (A4 h (hf d nH)) (w5 d)
 have kr:∀(iP:List nD) (m:MM),(∀s∈m.steps,s.data.length<=50000000000)->∀s∈(iP.foldl MM.gw m).steps,s.data.length<=50000000000:=by
  intro iP;induction iP<;>grind [MM.gw]
 grind [B6]
theorem IP{l:List bn}{size cap:Int}{z:List eH}(h:pq l size cap=.ok z):z.length<=3*l.length+60000000/\(∀s∈z,s.data.length<=50000000000)/\lI l=true/\(sW l z:Int)<=cap/\cap<=4194304:=by
 unfold pq at h;split at h
 ·cases h
 ·rename_i h1;have xz:size<=1048576:=bE;split at h
  ·cases h
  ·rename_i h2;split at h
   ·cases h
   ·rename_i h3
    cases h
    have qO:lI l=true:=by
     grind
    have rn:cap<=4194304:=av
    have hus:(aZ l:Int)<=cap:=av
    have sY:∀f∈l,f.name.length<=1000000:=λf hf=>aj (jT ((zi qO).1 f hf)) de
    have h4:=(Qp l (Hb l) (pD (u9 l) size) sY).1.steps
    grind [ED,u9,EE,se,He,Hb,Hf,ao8,LA]
def lu(s:be)(size:Int):be×Int:=
 if(decide (64<=size)&&decide (size<=1048576))=false then(s,140)
 else if s.down=true then(s,75)
 else match pq s.all size s.cap with
  |.error e=>(s,e)
  |.ok z=>((s.ml z).1,(s.ml z).2.2)
theorem Yj(D:Nat)(s:be)(size:Int)(hl:s.files.length<=50000000000):
 TR ab GG 83 #[au D,.int .i64 size] [bM D s] (cb λv B=>v=.int .i64 (lu s size).2/\B=[bM D (lu s size).1]):=by
 refine aW U λb β hb hG=>?_
 generalize bu:lu s size=res
 unfold lu at bu
 refine tE D λdp=>?_
 have h2:=dp.le
 have h3:=dp.cap
 have Kc:=dp.vX
 have hu:=qD dp
 have ub:=oG s
 refine xB ?_ ?_<;>intro h1
 ·have h1:(decide (64<=size)&&decide (size<=1048576))=false:=by grind
  rw[if_pos h1]at bu;subst bu;exact xR
 have h1:¬(decide (64<=size)&&decide (size<=1048576))=false:=bE
 rw[if_neg h1]at bu
 refine xE (DZ GG D s) ?_
 refine xB ?_ ?_<;>intro hd
 ·have hd:s.down=true:=hd;rw[if_pos hd]at bu;subst bu;exact xR
 have hd:s.down=false:=av
 rw[if_neg (by simp[hd])]at bu
 refine xS ?_
 refine bw (lW GG D s av) ?_
 rintro v B ⟨a,c,rfl,rfl⟩
 dsimp only[ae,ai,ah]
 refine pE a c (l:=s.all) λq hq Z7 Ms=>?_
 refine xH (Cs GG D s) ?_
 rw[<-hq]at bu hu ub ⊢
 rw[aA]at ub ⊢
 refine xS ?_
 refine bw (Tk size s.cap a _ c q U av Ms av) ?_
 intro v B hD
 have XM:=@OG (q.map (·.1)) size s.cap
 have JM:=@IP (q.map (·.1)) size s.cap
 cases hp:pq (q.map (·.1)) size s.cap with
 |error e=>
  rw[hp]at hD bu;obtain⟨rfl,rfl⟩:=hD;subst bu;have h0:=XM hp;refine xD ?_;refine xA ?_;intro b5;refine aM 24 true U Rk  ?_;exact xR
 |ok z=>
  rw[hp]at hD bu;obtain⟨BT,hzs,_⟩:=JM hp;obtain⟨ss,sa,sc,fa,fn,fc,t,f,p,iz,rfl,rfl⟩:=hD;dsimp only at bu;refine xD ?_;refine xA ?_;intro b5;have sI:ss.length<=1000000000000:=by
   grind
  refine bw (IB GG D s sa _ sc ss U sI (λx hx=>by
   grind)) ?_
  rintro v B ⟨rfl,rfl⟩;rw[iz];refine xD ?_;subst bu;exact xR
end
section
variable{n:Bs}{w:Wr}{f:bF}(W D:Nat)(x:WD)(b:Bs)(p:Place)(r:Rec)(G:bZ)
def WD.begin(x:WD):WD×Int:=
 let r:=x.settle
 if r.2≠0 then r else
 let w1:Wr:={r.1.1 with number:=(fW 1 r.1.2.names).1}
 let c:=r.1.2.create (gr w1)
 if c.2≠0 then(({w1.hit c.2 with number:=r.1.1.number},c.1),c.2)else(({w1.hit c.2 with size:=0},c.1),0)
theorem Fv(s:be):s.names.length=s.files.length:=by grind [be.names,jh]
theorem be.ok.names{s:be}(h:s.ok)(hn:n∈s.names):n.length<=60:=by
 have h1:n∈s.files.map (·.1):=(iK _).mem_iff.1 hn
 obtain⟨x,hx,rfl⟩:=bj.1 h1
 have:=h.name x hx
 grind [dy]
theorem OH(s:be)(files:List (Bs×bF))(u:Nat):(s.gZ files u).1.files=files\/(s.gZ files u).1.files=s.files:=by
 unfold be.gZ;split
 ·split
  ·grind
  ·exact .inr U
 ·split
  ·exact .inr U
  grind
theorem LB(s:be)(files:List (Bs×bF))(u n:Nat)(h1:files.length<=n)(h2:s.files.length<=n):(s.gZ files u).1.files.length<=n:=by
 grind [OH]
theorem Yk(l:List (Bs×bF))(n:Bs)(f:bF):(nv l n f).length=l.length:=by grind [nv]
theorem Hy(s:be)(n:Bs):(s.sync n).1.files.length<=s.files.length:=by
 unfold be.sync
 split
 ·exact aL9
 grind
theorem CS(s:be)(n:Bs)(ys:Bs):(s.append n ys).1.files.length<=s.files.length:=by
 unfold be.append
 split
 ·split
  ·exact ar _
  ·exact aL9
 grind
theorem CE(s:be)(n:Bs):(s.create n).1.files.length<=s.files.length+1:=by
 unfold be.create;split
 ·exact gk _
 ·split
  ·exact LB _ _ _ _ nH (gk _)
  grind
theorem WD.tg:x.settle.1.2.files.length<=x.2.files.length:=by
 grind [WD.settle,Hy]
theorem Yl(hl:x.2.files.length<=100000000000):
 TR ab GG 204 #[au W] [bx W 177 (x.1.cs D),bM D x.2] (cb λv B=>v=.int .i64 x.begin.2/\B=[bx W 177 (x.begin.1.1.cs D),bM D x.begin.1.2]):=by
 refine cg U λb β hb hG=>?_
 refine xH (Av W D x) ?_
 have pz:x.settle.1.2.files.length<=100000000000:=aj (WD.tg x) hl
 have e0:x.begin=if x.settle.2≠0 then x.settle else
  if(x.settle.1.2.create (gr {x.settle.1.1 with number:=(fW 1 x.settle.1.2.names).1})).2≠0 then
   (({({x.settle.1.1 with number:=(fW 1 x.settle.1.2.names).1}:Wr).hit (x.settle.1.2.create (gr {x.settle.1.1 with number:=(fW 1 x.settle.1.2.names).1})).2 with number:=x.settle.1.1.number},(x.settle.1.2.create (gr {x.settle.1.1 with number:=(fW 1 x.settle.1.2.names).1})).1),(x.settle.1.2.create (gr {x.settle.1.1 with number:=(fW 1 x.settle.1.2.names).1})).2)
  else(({({x.settle.1.1 with number:=(fW 1 x.settle.1.2.names).1}:Wr).hit (x.settle.1.2.create (gr {x.settle.1.1 with number:=(fW 1 x.settle.1.2.names).1})).2 with size:=0},(x.settle.1.2.create (gr {x.settle.1.1 with number:=(fW 1 x.settle.1.2.names).1})).1),0):=U
 generalize x.begin=y at*
 generalize x.settle=r at*
 obtain⟨⟨w,s⟩,e⟩:=r
 dsimp only at*
 refine xB ?_ ?_<;>intro h1
 ·have h1:e≠0:=by grind
  rw[if_pos h1]at e0;subst e0;exact xR
 ·have h1:e=0:=by grind
  subst h1;rw[if_neg nH]at e0;refine xS ?_;refine tE D λdp=>?_;refine bw (Sw GG D s av) ?_;rintro v B ⟨a,c,rfl,rfl⟩;dsimp only[ae,ai,ah];have Vr:s.names.length<=100000000000:=by grind [Fv]
  refine xS ?_;refine dE a (λk:Bs=>[ao k]) s.names U U (λ_=>rfl) λhc=>?_;refine xJ (DP 1 a s.names.length c s.names U av λt ht=>by have:=dp.names ht;omega) ?_;rw[show(fW 1 s.names).2=0 from rfl];refine xS ?_;have hd:=UT (DW GG D s (gr {w with number:=(fW 1 s.names).1})) (bx W 177 (Wr.cs D {w with number:=(fW 1 s.names).1}));refine xH (Io W D {w with number:=(fW 1 s.names).1} 309 [au D] [] (bM D s) _ _ hd) ?_;generalize(fW 1 s.names).1=n at*;generalize s.create (gr {w with number:=n})=q at*;refine xB ?_ ?_<;>intro h2
  ·have h2:q.2≠0:=by grind
   rw[if_pos h2]at e0;subst e0;refine xS ?_;exact X.ret hb (.tmps U) ⟨[bx W 177 (Wr.cs D {({w with number:=n}:Wr).hit q.2 with number:=w.number}),bM D q.1],⟨U,U⟩,ay⟩
  ·have h2:q.2=0:=by grind
   rw[if_neg Xw]at e0;subst e0;refine xS ?_;exact X.ret hb (.tmps U) ⟨[bx W 177 (Wr.cs D {({w with number:=n}:Wr).hit q.2 with size:=0}),bM D q.1],⟨U,U⟩,ay⟩
theorem WD.Hg:x.begin.1.2.files.length<=x.2.files.length+1:=by
 grind [WD.begin,WD.tg,CE]
def WD.sync(x:WD):WD×Int:=if x.1.shut=true then(x,92)else x.settle
theorem EF:
 TR ab GG 80 #[au W] [bx W 177 (x.1.cs D),bM D x.2] (cb λv B=>v=.int .i64 x.sync.2/\B=[bx W 177 (x.sync.1.1.cs D),bM D x.sync.1.2]):=by
 refine cg U λb β hb hG=>xS ?_
 unfold WD.sync
 refine xB ?_ ?_<;>intro h1
 ·rw[if_pos h1];exact xR
 ·rw[if_neg (by simp[h1])];refine xS ?_;refine bw (Av W D x) ?_;exact Qi
def WD.close(x:WD):WD×Int:=(({x.sync.1.1 with shut:=true},x.sync.1.2),x.sync.2)
theorem BH:
 TR ab GG 82 #[au W] [bx W 177 (x.1.cs D),bM D x.2] (cb λv B=>v=.int .i64 x.close.2/\B=[bx W 177 (x.close.1.1.cs D),bM D x.close.1.2]):=by
 refine cg U λb β hb hG=>?_
 refine xH (EF W D x) ?_
 unfold WD.close
 refine xS ?_
 exact X.ret hb (.tmps U) ⟨[bx W 177 (Wr.cs D {x.sync.1.1 with shut:=true}),bM D x.sync.1.2],⟨U,U⟩,ay⟩
theorem ao9(b2 b6:Nat)(w:Wr)(s:be)(name:Bs)(a:Option Addr)(n c:Nat)(xs:Bs)(hn:xs.length=n)(hs:n<=1000000000000):
 TR ab GG 206 #[ao name,au b2,au b6] [bx W 177 (w.cs D),cV [bx b2 128 [au W],bx b6 55 [.slice a n c],bV RB 1 a xs,bM D s]]
  (cb λv B=>v=.int .i64 (s.append name xs).2/\B=[bx W 177 (w.cs D),cV [bx b2 128 [au W],bx b6 55 [.slice a n c],bV RB 1 a xs,bM D (s.append name xs).1]]):=by
 refine jr U λb β hb hG=>?_
 refine kZ [bx b2 128 [au W],bx b6 55 [.slice a n c],bV RB 1 a xs,bM D s] (xD ?_)
 refine eR 6 [0,4,1] ?_
 refine xL [0,1,2,3,4,5] ?_
 refine xE (DY GG D s name a n c xs hn hs) ?_
 refine jc [bx b2 128 [au W],bx b6 55 [.slice a n c],bV RB 1 a xs,bM D (s.append name xs).1] ?_
 exact xR
def Place.zero:Place:=⟨0,0,0⟩
def WD.B7(x:WD)(p:Place):WD×Place×Int:=
 let z:=if 0<x.1.every/\x.1.every<=x.1.count then x.settle else(x,0)
 if z.2≠0 then(z.1,.zero,z.2)else(z.1,p,0)
def WD.xm(x:WD)(b:Bs):WD×Place×Int:=
 let a:=x.2.append (gr x.1) b
 let w2:=x.1.hit a.2
 if a.2≠0 then((w2,a.1),.zero,a.2)else
 WD.B7 ({w2 with size:=w2.size+b.length,loose:=w2.loose+b.length,count:=w2.count+1},a.1) ⟨w2.number,w2.size,b.length⟩
def WD.put(x:WD)(r:Rec):WD×Place×Int:=
 if x.1.shut=true then(x,.zero,92)else
 if ca (fj r)≠0 then(x,.zero,ca (fj r))else
 let b:=mS (fj r)
 if x.1.number=0\/(0<x.1.size/\x.1.cK<x.1.size+b.length)then
  if x.begin.2≠0 then(x.begin.1,.zero,x.begin.2)else x.begin.1.xm b
 else x.xm b
structure Wr.RH(w:Wr):Prop where
 l2:w.cK<=1048576
 e2:w.every<=1000
 sz:w.size<=2000000
 lo:w.loose<=2000000
 co:w.count<=2000000
def bo5(W D:Nat)(q:WD×Place×Int)(v:Value)(B:List az):Prop:=v=.tuple #[q.2.1.v,.int .i64 q.2.2]/\B=[bx W 177 (q.1.1.cs D),bM D q.1.2]
theorem Tl(hl:x.2.files.length<=100000000000)(hw:x.1.RH)(Ob:x.begin.1.1.RH):
 TR ab GG 135 #[au W,.agg r.cs.toArray] [bx W 177 (x.1.cs D),bM D x.2] (cb (bo5 W D (x.put r))):=by
 refine aW U λb β hb hG=>?_
 refine xP ?_
 intro b2
 refine xP ?_
 intro b3
 refine xA ?_
 intro b4
 have e0:x.put r=if x.1.shut=true then(x,.zero,92)else if ca (fj r)≠0 then(x,.zero,ca (fj r))else
  if x.1.number=0\/(0<x.1.size/\x.1.cK<x.1.size+(mS (fj r)).length)then
  if x.begin.2≠0 then(x.begin.1,.zero,x.begin.2)else x.begin.1.xm (mS (fj r))
  else x.xm (mS (fj r)):=U
 generalize x.put r=res at*
 refine xB ?_ ?_<;>intro h1
 ·have h1:x.1.shut=true:=h1;exact aO5
 ·rw[if_neg (by simp[h1])]at e0;refine xS ?_;have hlen:=mT (fj r);refine bw (Aa GG (fj r)) ?_;intro v B hq;rcases hq with⟨he,a,c,rfl,rfl⟩|⟨he,rfl,rfl⟩
  ·rw[if_neg (by simp[he])]at e0;have hlen:=hlen he;generalize mS (fj r)=ys at*;refine xD ?_;refine xA ?_;intro b6;refine iE a U λhc=>?_;refine jI (ι:={t:Bool // t=decide (x.1.number=0\/(0<x.1.size/\x.1.cK<x.1.size+ys.length))}) (λt=>([(2,au b2),(4,au b4),(6,au b6),(52,.bool t.1)],[bx b2 128 [au W],bx b4 153 [.int .u32 0,.int .i64 0,.int .i64 0],bx b6 55 [.slice a ys.length c],bV RB 1 a ys,bx W 177 (x.1.cs D),bM D x.2])) (λt=>?_) (λK fin=>?_)
   ·obtain⟨t,ht⟩:=t;dsimp only;refine xS ?_;refine jI (ι:={y:WD // y.1.RH/\res=y.xm ys}) (λy=>([(2,au b2),(4,au b4),(6,au b6)],[bx b2 128 [au W],bx b4 153 [.int .u32 0,.int .i64 0,.int .i64 0],bx b6 55 [.slice a ys.length c],bV RB 1 a ys,bx W 177 (y.1.1.cs D),bM D y.1.2])) (λy=>?_) (λK fin=>?_)
    ·obtain⟨y,hy,ey⟩:=y;dsimp only;refine xS ?_;refine jc [bx b2 128 [au W],bx b6 55 [.slice a ys.length c],bV RB 1 a ys,bM D y.2] ?_;refine xH (Io W D y.1 206 [] [au b2,au b6] _ _ _ (ao9 W D b2 b6 y.1 y.2 (gr y.1) a _ c ys U av)) ?_;refine kZ [bx b2 128 [au W],bx b6 55 [.slice a ys.length c],bV RB 1 a ys,bM D (y.2.append (gr y.1) ys).1] ?_;dsimp only[ae,ai,ah];have ey:res=if(y.2.append (gr y.1) ys).2≠0 then((y.1.hit (y.2.append (gr y.1) ys).2,(y.2.append (gr y.1) ys).1),.zero,(y.2.append (gr y.1) ys).2)else
      WD.B7 ({y.1.hit (y.2.append (gr y.1) ys).2 with size:=(y.1.hit (y.2.append (gr y.1) ys).2).size+ys.length,loose:=(y.1.hit (y.2.append (gr y.1) ys).2).loose+ys.length,count:=(y.1.hit (y.2.append (gr y.1) ys).2).count+1},(y.2.append (gr y.1) ys).1) ⟨(y.1.hit (y.2.append (gr y.1) ys).2).number,(y.1.hit (y.2.append (gr y.1) ys).2).size,ys.length⟩:=ey
     generalize y.2.append (gr y.1) ys=q at*;have hz:(y.1.hit q.2).RH:=⟨hy.l2,hy.e2,hy.sz,hy.lo,hy.co⟩;generalize y.1.hit q.2=w2 at*;refine xB ?_ ?_<;>intro h3
     ·have h3:q.2≠0:=by grind
      rw[if_pos h3]at ey;exact YG
     ·have h3:q.2=0:=by grind
      rw[if_neg (by simp[h3])]at ey;have q3:=hz.sz;have q4:=hz.lo;have q5:=hz.co;refine xS ?_;refine fM (uC [0,1,2,3,4,5,6,7,8,9,10]) [bx b2 128 [au W],bx W 177 (w2.cs D),bx b6 55 [.slice a ys.length c]] U ?_;refine xL [0,1,2,3,4,5,6,7,8,9,10] ?_;refine xA ?_;intro rR;refine fM (uC [0,1,2,3,4,5,6]) [bx b2 128 [au W],bx W 177 (w2.cs D),bx b6 55 [.slice a ys.length c]] U ?_;refine xL [0,1,2,3,4,5,6] ?_;refine xS ?_;refine fM (uC [0,1,2,3,4,5,6]) [bx b2 128 [au W],bx W 177 [au D,.int .i64 w2.cK,.int .i64 w2.every,.int .u32 w2.number.toNat,.int .i64 ((w2.size:Int)+ys.length),.int .i64 w2.loose,.int .i64 w2.count,.bool w2.shut],bx b6 55 [.slice a ys.length c]] U ?_;refine xL [0,1,2,3,4,5,6] ?_;refine xS ?_;rw[show(w2.size:Int)+(ys.length:Int)=((w2.size+ys.length:Nat):Int)from by simp,show(w2.loose:Int)+(ys.length:Int)=((w2.loose+ys.length:Nat):Int)from by simp,show(w2.count:Int)+1=((w2.count+1:Nat):Int)from by simp];refine X.cd (Hs':=[bx b2 128 [au W],bx b4 153 [.int .u32 0,.int .i64 0,.int .i64 0],bx rR 153 (Place.cs ⟨w2.number,w2.size,ys.length⟩),bx W 177 (Wr.cs D {w2 with size:=w2.size+ys.length,loose:=w2.loose+ys.length,count:=w2.count+1}),bM D q.1]) ay ?_;generalize(⟨w2.number,w2.size,ys.length⟩:Place)=p at*;generalize hw3:({w2 with size:=w2.size+ys.length,loose:=w2.loose+ys.length,count:=w2.count+1}:Wr)=w3 at*;have hc3:w3.count<=2000001:=bE;refine jI (ι:={t:Bool // t=decide (0<w3.every/\w3.every<=w3.count)}) (λt=>([(2,au b2),(4,au b4),(10,au rR),(117,.bool t.1)],[bx b2 128 [au W],bx b4 153 [.int .u32 0,.int .i64 0,.int .i64 0],bx rR 153 p.cs,bx W 177 (w3.cs D),bM D q.1])) (λt=>?_) (λK fin=>?_)
      ·obtain⟨t,ht⟩:=t;dsimp only;have e2:WD.B7 (w3,q.1) p=if(if 0<w3.every/\w3.every<=w3.count then WD.settle (w3,q.1)else((w3,q.1),0)).2≠0 then((if 0<w3.every/\w3.every<=w3.count then WD.settle (w3,q.1)else((w3,q.1),0)).1,.zero,(if 0<w3.every/\w3.every<=w3.count then WD.settle (w3,q.1)else((w3,q.1),0)).2)else((if 0<w3.every/\w3.every<=w3.count then WD.settle (w3,q.1)else((w3,q.1),0)).1,p,0):=U;refine xB ?_ ?_<;>intro h4
       ·have h4:t=true:=h4;subst h4;have hc5:0<w3.every/\w3.every<=w3.count:=bE;rw[if_pos hc5]at e2;refine xH (Av W D (w3,q.1)) ?_;generalize WD.settle (w3,q.1)=z at*;refine xB ?_ ?_<;>intro h5
        ·have h5:z.2≠0:=by grind
         rw[if_pos h5]at e2;exact aJ7
        ·have h5:z.2=0:=by grind
         rw[if_neg (by simp[h5])]at e2;exact aJ7
       ·have h4:t=false:=h4;subst h4;have hc5:¬(0<w3.every/\w3.every<=w3.count):=bE;rw[if_neg hc5,if_neg nH]at e2;exact aJ7
      ·by_cases n1:0<w3.every
       ·refine fM (uC [0,1,2,3,4,5,6,7,8,9,10,11,12,13,14,15]) [bx b2 128 [au W],bx W 177 (w3.cs D)] U ?_;apply cW [0,1,2,3,4,5,6,7,8,9,10,11,12,13,14,15] U U U
        ·intro pp hp;refine xS ?_;refine aM 107 true U bB (xS ?_);exact hp
        ·rfl
        ·rfl
        refine xS ?_;exact X.less (fin ⟨_,U⟩) (EL U U U (by rw[show decide (0<w3.every/\w3.every<=w3.count)=decide ((w3.count:Int)≥w3.every)from by simp[n1]];rfl)) ay
       ·refine fM (uC [0,1,2,3,4,5,6,7,8,9,10,11,12,13,14,15]) [bx b2 128 [au W],bx W 177 (w3.cs D)] U ?_;apply cW [0,1,2,3,4,5,6,7,8,9,10,11,12,13,14,15] U U U
        ·intro pp hp;refine xS ?_;refine aM 107 false U bB (xS ?_);exact hp
        ·rfl
        ·rfl
        refine xS ?_;exact X.W (fin ⟨false,by simp[n1]⟩)
    ·refine xB ?_ ?_<;>intro h2
     ·have h2:t=true:=h2;subst h2;rw[if_pos bE]at e0;refine xH (Yl W D x hl) ?_;generalize x.begin=q at*;refine xB ?_ ?_<;>intro h3
      ·have h3:q.2≠0:=by grind
       rw[if_pos h3]at e0;exact bk2
      ·have h3:q.2=0:=by grind
       rw[if_neg (by simp[h3])]at e0;refine xS ?_;exact X.W (fin ⟨q.1,Ob,e0⟩)
     ·have h2:t=false:=h2;subst h2;rw[if_neg bE]at e0;refine xS ?_;exact X.W (fin ⟨x,hw,e0⟩)
   ·obtain⟨w,s⟩:=x;dsimp only at*;have q1:=hw.l2;have q3:=hw.sz;by_cases n0:w.number=0
    ·refine fM (uC [0,1,2,3,4,5,6,7,8,9,10,11,12,13,14,15,16,17,18,19,20,21,22,23,24,25]) [bx b2 128 [au W],bx W 177 (w.cs D),bx b6 55 [.slice a ys.length c]] U ?_;apply cW [0,1,2,3,4,5,6,7,8,9,10,11,12,13,14,15,16,17,18,19,20,21,22,23,24,25] U U U
     ·intro p hp;refine xS ?_;refine aM 32 true U (by simp[n0]) (xS ?_);exact hp
     ·rfl
     ·rfl
     refine xS ?_;exact X.W (fin ⟨true,by simp[n0]⟩)
    ·have hn0:¬w.number.toNat=0:=λhh=>n0 (dM.1 (by rw[hh];rfl));by_cases n1:0<w.size
     ·refine fM (uC [0,1,2,3,4,5,6,7,8,9,10,11,12,13,14,15,16,17,18,19,20,21,22,23,24,25]) [bx b2 128 [au W],bx W 177 (w.cs D),bx b6 55 [.slice a ys.length c]] U ?_;apply cW [0,1,2,3,4,5,6,7,8,9,10,11,12,13,14,15,16,17,18,19,20,21,22,23,24,25] U U U
      ·intro p hp;refine xS ?_;refine aM 32 false U bB (xS ?_);refine aM 38 true U bB (xS ?_);exact hp
      ·rfl
      ·rfl
      refine xS ?_;exact X.less (fin ⟨_,U⟩) (EL U U U (by rw[show decide (w.number=0\/0<w.size/\w.cK<w.size+ys.length)=decide ((w.size:Int)+ys.length>w.cK)from by grind];rfl)) ay
     ·refine eR 26 [4,5,1] ?_;apply cW [0,1,2,3,4,5,6,7,8,9,10,11,12,13,14,15,16,17,18,19,20,21,22,23,24,25] U U U
      ·intro p hp;refine xS ?_;refine aM 32 false U bB (xS ?_);refine aM 38 false U bB (xS ?_);exact hp
      ·rfl
      ·rfl
      refine xS ?_;exact X.W (fin ⟨false,by simp[n0,n1]⟩)
  ·rw[if_pos he]at e0;subst e0;generalize mS (fj r)=ys at*;generalize ca (fj r)=e at*;refine xD ?_;refine xA ?_;intro b6;exact aw7
structure Wr.kS(w:Wr):Prop where
 l2:w.cK<=1048576
 e2:w.every<=1000
 sz:w.size<=1060000
 lo:w.loose<=w.size
 co:w.count<=w.loose
theorem Wr.kS.RH(h:w.kS):w.RH:=⟨h.l2,h.e2,by have:=h.sz;omega,by have:=h.sz;have:=h.lo;omega,by have:=h.sz;have:=h.lo;have:=h.co;omega⟩
theorem Wr.kS.hit(h:w.kS)(e:Int):(w.hit e).kS:=⟨h.l2,h.e2,h.sz,h.lo,h.co⟩
theorem WD.vc(h:x.1.kS):x.settle.1.1.kS/\(x.settle.2=0->x.settle.1.1.loose=0/\x.settle.1.1.count=0):=by
 unfold WD.settle;split
 ·rename_i h0;exact⟨h,λ_=>⟨h0,by have:=h.co;grind⟩⟩
 ·dsimp only;split
  ·exact⟨⟨h.l2,h.e2,h.sz,al _,al _⟩,λ_=>⟨U,U⟩⟩
  ·rename_i me;exact⟨h.hit _,λhh=>absurd hh me⟩
theorem WD.xo(h:x.1.kS):x.begin.1.1.kS/\(x.begin.2=0->x.begin.1.1.size=0):=by
 unfold WD.begin
 dsimp only
 obtain⟨h1,h2⟩:=x.vc h
 split
 ·grind
 ·rename_i h0;have h0:x.settle.2=0:=av;obtain⟨h3,h4⟩:=h2 h0;split
  ·rename_i h5;exact⟨⟨h1.l2,h1.e2,h1.sz,h1.lo,h1.co⟩,λhh=>absurd hh h5⟩
  ·refine⟨⟨h1.l2,h1.e2,al _,?_,?_⟩,λ_=>rfl⟩
   ·show x.settle.1.1.loose<=0;omega
   ·show x.settle.1.1.count<=x.settle.1.1.loose;omega
theorem Tm(f:mj):1<=(mS f).length:=by grind [mS,yE]
theorem HC(h:x.1.kS):(x.B7 p).1.1.kS:=by
 unfold WD.B7
 split
 ·dsimp only;split<;>exact(x.vc h).1
 grind
theorem HF(h:x.1.kS)(hb:1<=b.length)(Ra:b.length<=6100)(hs:x.1.size=0\/x.1.size+b.length<=x.1.cK):(x.xm b).1.1.kS:=by
 unfold WD.xm;dsimp only;split
 ·exact h.hit _
 ·apply HC;have h1:=h.lo;have h2:=h.co;have h3:=h.l2;refine⟨h.l2,h.e2,?_,?_,?_⟩
  ·show x.1.size+b.length<=1060000;omega
  ·show x.1.loose+b.length<=x.1.size+b.length;omega
  ·show x.1.count+1<=x.1.loose+b.length;omega
theorem Ji(h:x.1.kS):(x.put r).1.1.kS:=by
 unfold WD.put;split
 ·exact h
 ·split
  ·exact h
  ·rename_i h0
   have h0:ca (fj r)=0:=av
   dsimp only
   obtain⟨h1,h2⟩:=x.xo h
   grind [HF,Tm,mT]
theorem WD.Hh(h:x.1.kS):x.sync.1.1.kS:=by
 unfold WD.sync;split
 ·exact h
 ·exact(x.vc h).1
theorem wa(h:x.1.kS):x.close.1.1.kS:=by
 have:=x.Hh h;exact⟨this.l2,this.e2,this.sz,this.lo,this.co⟩
theorem Yn(hl:x.2.files.length<=100000000000)(hw:x.1.kS):
 TR ab GG 135 #[au W,.agg r.cs.toArray] [bx W 177 (x.1.cs D),bM D x.2] (cb (bo5 W D (x.put r))):=Tl W D x r hl hw.RH (x.xo hw).1.RH
theorem Jm:(x.B7 p).1.2.files.length<=x.2.files.length:=by
 unfold WD.B7
 split
 ·dsimp only;split<;>exact x.tg
 grind
theorem Ba:(x.xm b).1.2.files.length<=x.2.files.length:=by
 grind [WD.xm,CS,Jm]
theorem MJ:(x.put r).1.2.files.length<=x.2.files.length+1:=by
 unfold WD.put;split
 ·exact gk _
 ·split
  ·exact gk _
  ·dsimp only
   split
   ·split
    ·exact x.Hg
    ·exact aj (Ba _ _) x.Hg
   grind [Ba]
theorem au9:x.sync.1.2.files.length<=x.2.files.length:=by
 unfold WD.sync;split
 ·exact ar _
 ·exact x.tg
theorem Yo{s:be}{r:Bool}{e:Int}(h:s.find n r=(some f,e)):(n,f)∈s.files:=by
 grind [be.find,jE,bk]
theorem be.ok.ap0{s:be}(h:s.ok)(hm:(n,f)∈s.files):f.data.length<=4194304:=by
 have h1:=Kh hm
 have h2:=h.vX
 have h3:=h.le
 have h4:=h.cap
 grind
theorem be.ok.Yp{s:be}(h:s.ok)(n:Bs)(a l:Int):(s.read n a l).2.1.length<=4194304:=by
 unfold be.read
 split
 ·rename_i f e hf;split
  ·exact al _
  ·dsimp only
   have:=h.ap0 (Yo hf)
   grind
 grind
def kg(s:be)(p:Place):be×Rec×Int:=
 if(fH 1 p.qK).2≠0\/p.at_<0\/p.len<1 then(s,.zero,90)else
 let q:=s.read (fH 1 p.qK).1 p.at_ p.len
 if q.2.2≠0 then(q.1,.zero,q.2.2)else
 let d:=bL q.2.1 0
 if d.2.2≠0\/d.2.1≠p.len\/(d.1.kind≠1/\d.1.kind≠2)then(q.1,.zero,91)else(q.1,d.1.kG,0)
theorem EG(s:be)(p:Place)(h1:p.at_<=9223372036854775807)(h2:p.len<=9223372036854775807):
 TR ab GG 141 #[au D,.agg p.cs.toArray] [bM D s] (cb λv B=>v=.tuple #[.agg (kg s p).2.1.cs.toArray,.int .i64 (kg s p).2.2]/\B=[bM D (kg s p).1]):=by
 refine aW U λb β hb hG=>?_
 refine xP ?_
 intro b3
 refine xA ?_
 intro b4
 refine xJ (yU 1 p.qK) ?_
 have e0:kg s p=if(fH 1 p.qK).2≠0\/p.at_<0\/p.len<1 then(s,.zero,90)else
  if(s.read (fH 1 p.qK).1 p.at_ p.len).2.2≠0 then((s.read (fH 1 p.qK).1 p.at_ p.len).1,.zero,(s.read (fH 1 p.qK).1 p.at_ p.len).2.2)else
  if(bL (s.read (fH 1 p.qK).1 p.at_ p.len).2.1 0).2.2≠0\/(bL (s.read (fH 1 p.qK).1 p.at_ p.len).2.1 0).2.1≠p.len\/((bL (s.read (fH 1 p.qK).1 p.at_ p.len).2.1 0).1.kind≠1/\(bL (s.read (fH 1 p.qK).1 p.at_ p.len).2.1 0).1.kind≠2)then((s.read (fH 1 p.qK).1 p.at_ p.len).1,.zero,91)else((s.read (fH 1 p.qK).1 p.at_ p.len).1,(bL (s.read (fH 1 p.qK).1 p.at_ p.len).2.1 0).1.kG,0):=U
 generalize fH 1 p.qK=nm at*
 generalize kg s p=res at*
 have bad:∀{N vs k Hs F F'},((nm.2≠0\/p.at_<0\/p.len<1))->lk vs 4=some (au b4)->lk vs 5=some (.int .i64 90)->FB Hs b4 151 [.int .u64 0,.int .i64 0,ao [],ao []] F->ES Hs [bM D s] F'->X ab b β none (.it (.code .ret::k)) ⟨N,vs,[]⟩ Hs (cb λv B=>v=.tuple #[.agg res.2.1.cs.toArray,.int .i64 res.2.2]/\B=[bM D res.1]):=by
  intro N vs k Hs F F' hc g1 g2 g3 g4;rw[if_pos hc]at e0;subst e0;exact bO hb (.gX g1 U (.tmp g2 .nil)) ⟨U,U⟩
 refine xT 19 ?_ ?_<;>intro h3
 ·refine xS ?_;refine xS ?_;exact bad (.inl bE) U U inferInstance inferInstance
 ·have h3:nm.2=0:=by grind
  refine xT 24 ?_ ?_<;>intro h4
  ·refine xS ?_;exact bad (.inr (.inl bE)) U U inferInstance inferInstance
  ·have h4:¬p.at_<0:=by grind
   refine xB ?_ ?_<;>intro h5
   ·refine xS ?_;exact bad (.inr (.inr bE)) U U inferInstance inferInstance
   ·have h5:¬p.len<1:=by grind
    rw[if_neg av]at e0;refine xS ?_;refine tE D λdp=>?_;have N7:=dp.Yp nm.1 p.at_ p.len;refine bw (Xg GG D s nm.1 p.at_ p.len h1 h2) ?_;rintro v B ⟨B',hq,rfl⟩;generalize s.read nm.1 p.at_ p.len=q at*;obtain⟨s2,xs,e⟩:=q;dsimp only at*;rcases hq with⟨he,a,c,rfl,rfl⟩|⟨he,rfl,rfl⟩
    ·dsimp only at he;rw[if_neg (by simp[he])]at e0;refine xD ?_;refine ni a λha hac=>?_;refine iE a U λhc=>?_;refine xJ (pW GG a xs.length c xs 0 U hac av) ?_;generalize bL xs 0=d at*;refine xA ?_;intro b9;refine xT 52 ?_ ?_<;>intro h6
     ·rw[if_pos (.inl bE)]at e0;exact bk2
     ·have h6:d.2.2=0:=by grind
      refine xT 58 ?_ ?_<;>intro h7
      ·rw[if_pos (.inr (.inl bE))]at e0;exact bk2
      ·have h7:d.2.1=p.len:=by grind
       refine xT 62 ?_ ?_<;>intro h8
       ·have h8:d.1.kind≠1:=by grind
        refine xB ?_ ?_<;>intro h9
        ·have h9:d.1.kind≠2:=by grind
         rw[if_pos (.inr (.inr ⟨h8,h9⟩))]at e0;exact bk2
        ·have h9:d.1.kind=2:=by grind
         exact ay7
       ·have h8:d.1.kind=1:=by grind
        exact ay7
    ·dsimp only at he;rw[if_pos he]at e0;subst e0;refine xD ?_;exact aw7
instance:NH ab 178:=⟨by kernel_rfl⟩
def a14(c:Bs)(e:Int)(v:Value)(B:List az):Prop:=(e=0/\v=.nilIface/\B=[])\/(e≠0/\∃p,v=.iface 178 (au p)/\B=[bx p 180 [ao c,.iface 23 (.int .i64 e)]])
theorem gh(c:Bs)(e:Int):TR ab G 65 #[ao c,.int .i64 e] [] (cb (a14 c e)):=by
 refine aW U λb β hb hG=>?_;refine xB ?_ ?_<;>intro h
 ·have h:e=0:=by grind
  refine xS ?_;exact X.ret hb (.tmps U) ⟨_,.inl ⟨h,U,U⟩,aN.nil _⟩
 ·have h:e≠0:=by grind
  refine xS ?_;refine qQ U U U  ?_;refine xP ?_;intro p;refine qQ U U U (xS ?_);exact X.ret hb (.tmps U) ⟨_,.inr ⟨h,p,U,U⟩,ay⟩
instance bt0(s:Bs):FJ ab 74 [ao s] [] (.bool (decide (1<=s.length)&&decide (s.length<=64))):=⟨λG=>by
 clear x;refine cg U λb β hb hG=>?_;refine xT 6 ?_ ?_<;>intro h
 ·have h:(s.length:Int)>0:=by grind
  have e1:decide (1<=s.length)=true:=decide_eq_true av;rw[e1,Bool.true_and];refine xS ?_;exact bO hb (.tmps U) ⟨by simp only[lx];congr 2;grind,U⟩
 ·have h:¬(s.length:Int)>0:=by grind
  have e1:decide (1<=s.length)=false:=decide_eq_false av;rw[e1,ab6];refine xS ?_;exact bO hb (.tmps U) ⟨U,U⟩⟩
structure fJ where
 cK:Int
 every:Int
 jX:Bool
 wr:Wr
 dir:dR
 last:UInt64
 closed:Bool
 broken:Bool
@[reducible] def fJ.cs(D W K:Nat)(l:Int)(x:fJ):List Value:=[.int .i32 l,.int .u32 0,au D,.int .i64 x.cK,.int .i64 x.every,.bool x.jX,au W,au K,.int .u64 x.last.toNat,.bool x.closed,.bool x.broken]
def fJ.writes(x:fJ)(n:Nat):Int:=if x.broken=true then 155 else if 18446744073709551615 - x.last.toNat<n then 154 else 0
theorem Hi(S D W K:Nat)(l:Int)(x:fJ)(n:Nat)(hn:n<=1000000000000):TR ab G 73 #[au S,.int .i64 n] [bx S 145 (x.cs D W K l)] (cb λv B=>v=.int .i64 (x.writes n)/\B=[bx S 145 (x.cs D W K l)]):=by
 refine aW U λb β hb hG=>?_;have hw:x.writes n=if x.broken=true then 155 else if 18446744073709551615 - x.last.toNat<n then 154 else 0:=U;have tV:=x.last.toNat_lt;refine xB ?_ ?_<;>intro h
 ·have h:x.broken=true:=h;rw[if_pos h]at hw;rw[hw];exact xR
 ·have h:¬x.broken=true:=by grind
  rw[if_neg h]at hw;have e2:cN.wrap (18446744073709551615 - (x.last.toNat:Int))=18446744073709551615 - (x.last.toNat:Int):=by grind [ic,iW,gy]
  have e1:cN.wrap (n:Int)=n:=aX2;refine xS ?_;rw[e1];refine xB ?_ ?_<;>intro h2
  ·have h2:18446744073709551615 - x.last.toNat<n:=by grind
   rw[if_pos h2]at hw;rw[hw];exact xR
  ·have h2:¬18446744073709551615 - x.last.toNat<n:=by grind
   rw[if_neg h2]at hw;rw[hw];exact xR
@[reducible] def fJ.qI(x:fJ)(e:Int):fJ:={x with broken:=x.broken||e==74||e==75}
theorem zo(S D W K:Nat)(l:Int)(x:fJ)(e:Int):TR ab G 79 #[au S,.int .i64 e] [bx S 145 (x.cs D W K l)] (cb λv B=>v=.int .i64 e/\B=[bx S 145 ((x.qI e).cs D W K l)]):=by
 refine aW U λb β hb hG=>?_;obtain⟨cK,every,jX,wr,dir,last,closed,broken⟩:=x;unfold fJ.qI;refine xT 10 ?_ ?_<;>intro h
 ·have h:broken=true:=h;subst h;refine xS ?_;refine X.ret hb (.tmps U) ⟨_,⟨U,U⟩,?_⟩;simp only[Bool.true_or];exact ay
 ·have h:broken=false:=by omega
  subst h;refine xT 14 ?_ ?_<;>intro h2
  ·have h2:e=74:=by grind
   subst h2;refine xS ?_;refine X.ret hb (.tmps U) ⟨_,⟨U,U⟩,?_⟩;simp only[BEq.rfl,Bool.or_true,Bool.true_or];exact ay
  ·have h2:(e==74)=false:=by omega
   refine xS ?_;refine X.ret hb (.tmps U) ⟨_,⟨U,U⟩,?_⟩;simp only[h2,Bool.false_or];exact ay
def IQ:List (bn×bn)->be->be×Int
 |[],s=>(s,0)
 |x::r,s=>if(bJ x.1.name).1≠1\/x.1.data.length=x.2.data.length then IQ r s else if(s.sync x.1.name).2≠0 then s.sync x.1.name else IQ r (s.sync x.1.name).1
def kj(s:be):be×Int:=IQ (s.all.zip s.lU) s
theorem LC(s:be)(f:bF->Nat):(s.told f).length=s.names.length:=by grind [be.told]
theorem OI(s:be)(hl:s.files.length<=100000000000):
 TR ab GG 68 #[au D] [bM D s] (cb λv B=>v=.int .i64 (kj s).2/\B=[bM D (kj s).1]):=by
 refine cg U λb β hb hG=>?_
 generalize bu:kj s=res
 unfold kj at bu
 refine tE D λdp=>?_
 have ub:=oG s
 have wI:=λf hf=>(@sZ s dp f hf).1
 have Fj:s.lU.length=s.all.length:=by rw[LC,LC]
 refine xS ?_
 refine bw (KY GG D s av dp) ?_
 rintro v B ⟨a3,c3,rfl,rfl⟩
 dsimp only[ae,ai,ah]
 refine pE a3 c3 (l:=s.lU) λq3 hq3 hqc3 hq03=>xS ?_
 refine bw (lW GG D s av) ?_
 rintro v B ⟨a,c,rfl,rfl⟩
 dsimp only[ae,ai,ah]
 refine pE a c (l:=s.all) λq hq Z7 Ms=>?_
 rw[<-hq]at ub wI Fj bu ⊢
 rw[<-hq3]at Fj bu ⊢
 simp only[aA]at ub Fj ⊢
 rw[Fj]
 refine xS ?_
 refine eT [0,3,12] [1,3,1] (ι:={z:Nat×be // z.1<=q.length/\IQ (((q.map (·.1)).zip (q3.map (·.1))).drop z.1) z.2=res}) (λz q_=>(13,aX q.length)::(14,aX z.1.1)::q_) (λz q_=>bM D z.1.2::q_) (λz=>q.length - z.1.1) ⟨(0,s),al _,bu⟩ ?_
 clear bu
 rintro⟨⟨i,s1⟩,hi,hS⟩ ih
 dsimp only at hi hS ih ⊢
 refine xB ?_ ?_<;>intro h
 ·have hi:i<q.length:=by simp at h;omega
  have hi3:i<q3.length:=av;have hdz:((q.map (·.1)).zip (q3.map (·.1))).drop i=(q[i].1,q3[i].1)::((q.map (·.1)).zip (q3.map (·.1))).drop (i+1):=by
   rw[aP bB];simp
  rw[hdz]at hS;have hxn:=jT (wI _ (bj.2 ⟨_,aB hi,U⟩));unfold IQ at hS;refine Pl (Re:=bp bG) (xs:=q3) a3 i hi3 λg3 o3 hg3=>?_;subst hg3;refine xS ?_;refine cH U U U U U hi U λbl o=>?_;generalize q[i]=x at*;generalize q3[i]=y at*;refine xS ?_;refine dF U U U U  ?_;refine xA ?_;intro b5;refine xJ (mF x.1.name av) ?_;by_cases hc:(bJ x.1.name).1≠1
  ·rw[if_pos (.inl hc)]at hS;refine eR 14 [0,2] ?_;apply cW [0,1,2,3,4,5,6,7,8,9,10,11,12,13] U U U
   ·intro p hp;refine xS ?_;exact aM0
   ·rfl
   ·rfl
   refine xS ?_;exact aO3
  by_cases hd:x.1.data.length=y.1.data.length
  ·rw[if_pos (.inr hd)]at hS;refine eR 14 [0,2] ?_;apply cW [0,1,2,3,4,5,6,7,8,9,10,11,12,13] U U U
   ·exact aA2
   ·rfl
   ·rfl
   refine xS ?_;refine aM 38 true U (by simp[hd]) (xS ?_);exact aO3
  rw[if_neg (λh=>h.elim hc hd)]at hS;refine eR 14 [0,2] ?_;apply cW [0,1,2,3,4,5,6,7,8,9,10,11,12,13] U U U
  ·exact aA2
  ·rfl
  ·rfl
  refine xS ?_;refine aM 38 false U bB  ?_;refine xQ (DX GG D s1 x.1.name) ?_;generalize s1.sync x.1.name=z at*;refine xB ?_ ?_<;>intro he
  ·have he:z.2≠0:=by simpa using he
   rw[if_pos he]at hS;subst hS;exact xR
  ·have he:¬z.2≠0:=by simpa using he
   rw[if_neg he]at hS;refine xS ?_;exact X.W (ih ⟨(i+1,z.1),by dsimp only;omega,hS⟩ gm)
 ·have fw:i=q.length:=by simp at h;omega
  subst fw;rw[bc bB]at hS;have hS:(s1,0)=res:=hS;subst hS;exact xR
def ox(d:dR)(x:Place×Rec):dR:=(d.add [iU x]).1
def uf(l:List bn):dR:=(lN l).foldl ox []
theorem OJ(V:List (Place×Rec)):(V.foldl ox []).ok/\dI (V.foldl ox [])<=V.length:=by
 have key:∀(V:List (Place×Rec)) (d:dR),d.ok->(V.foldl ox d).ok/\dI (V.foldl ox d)<=dI d+V.length:=by
  intro V;induction V<;>grind [qe,ox]
 have:=key V [] ⟨List.nodup_nil,λx hx=>ua,λx hx=>ua⟩
 grind [dI]
theorem Tn(s:be)(hl:s.files.length<=100000000000):
 TR ab GG 84 #[au D] [bM D s] (cb λv B=>∃K,v=au K/\B=[gS K (uf s.all),bM D s]):=by
 refine cg U λb β hb hG=>?_
 refine tE D λdp=>?_
 have hvl:=qC s.all
 rw[qD dp]at hvl
 have h1:=dp.vX
 have h2:=dp.le
 have h3:=dp.cap
 have ub:=oG s
 have iq:=λf hf=>@sZ s dp f hf
 have hkd:uf s.all=(lN s.all).foldl ox []:=U
 refine xS ?_
 refine bw (Ir GG) ?_
 rintro v B ⟨K,rfl,rfl⟩
 refine xD ?_
 refine xA ?_
 intro b3
 refine bw (lW GG D s av) ?_
 rintro v B ⟨a,c,rfl,rfl⟩
 dsimp only[ae,ai,ah]
 refine pE a c (l:=s.all) λq hq Z7 Ms=>?_
 rw[hkd]
 generalize s.all=l at*
 subst hq
 rw[aA]at ub
 rw[aA]
 refine xS ?_
 refine bw (Iv GG a q.length c) ?_
 rintro v B ⟨p,rfl,rfl⟩
 refine xD ?_
 generalize hV:lN (q.map (·.1))=V at*
 have hit:=Iw p a q.length c q U av (λx hx=>by
  have h5:=iq _ (bj.2 ⟨x,hx,U⟩);have h6:=jT h5.1;exact⟨by omega,by omega⟩)
 rw[hV]at hit
 refine qh hG hb hit U (λpre=>[gS K (pre.foldl ox []),bx b3 133 [au K]]) [gS K [],bx b3 133 [au K]] U (λ_=>rfl) de ?_ ?_
 ·intro b' β' l' r pre x post hx lC yy hr;have tJ:pre.length+1<=4194304:=bE;have SH:(pre++[x]).foldl ox []=((pre.foldl ox []).add [iU x]).1:=by rw[List.foldl_append];rfl
  have Fy:=(OJ pre).2;have F0:iU x=⟨x.2.key,x.2.eB,x.2.kind,x.1,true,if ca (fj x.2)=0 then eE (fj x.2)else[]⟩:=U;rw[SH];generalize pre.foldl ox []=d at*;generalize iU x=sx at*;obtain⟨pl,rc⟩:=x;dsimp only[pr2,yx]at F0 ⊢;refine xA ?_;intro b5;refine xA ?_;intro b6;refine qg lC hr (xS ?_);refine Cc yy U U U (xS ?_);refine ei yy (oE GG (fj rc)) U U U aN.es ?_;rintro v B (⟨h0,a7,c7,rfl,rfl⟩|⟨h0,rfl,rfl⟩)
  ·rw[if_pos h0]at F0;subst F0;have Fh:=r7 h0;refine xD ?_;refine xV U U U U (xS ?_);refine lB U U iA iA iA iA iA iA λb31=>?_;refine iu (sz:=8) b31 Seen.cs [(⟨rc.key,rc.eB,rc.kind,pl,true,eE (fj rc)⟩:Seen)] U (λ_=>rfl) (xS ?_);refine ei yy (Aw GG K d (some ⟨b31,0,none⟩) 1 1 [(⟨rc.key,rc.eB,rc.kind,pl,true,eE (fj rc)⟩:Seen)] U bB) U U U aN.es ?_;exact aa0
  ·rw[if_neg h0]at F0;subst F0;refine xD ?_;refine jl UInt8 RB 1 (xS ?_);refine lB U U iA iA iA iA iA iA λb31=>?_;refine iu (sz:=8) b31 Seen.cs [(⟨rc.key,rc.eB,rc.kind,pl,true,[]⟩:Seen)] U (λ_=>rfl) (xS ?_);refine ei yy (Aw GG K d (some ⟨b31,0,none⟩) 1 1 [(⟨rc.key,rc.eB,rc.kind,pl,true,[]⟩:Seen)] U bB) U U U aN.es ?_;exact aa0
 ·intro DD;refine xD ?_;exact aF7
end
section
variable{A:List az}{args:Array Value}{P:Program}{f:FuncId}{N:Nat}{G:bZ}{c:Bs}{e:Int}(S D:Nat)(l:Int)(x:fJ)(d:be)
def Cy(r:Rec):Bs:=if ca (fj r)=0 then eE (fj r)else[]
def fJ.write(x:fJ)(d:be)(r0:Rec):(fJ×be)×Int:=
 let r:Rec:=⟨x.last+1,r0.kind,r0.key,r0.val⟩
 let q:=WD.put (x.wr,d) r
 if q.2.2≠0 then((fJ.qI {x with wr:=q.1.1} q.2.2,q.1.2),q.2.2)
 else(({x with wr:=q.1.1,last:=r.eB,dir:=(x.dir.add [⟨r.key,r.eB,r.kind,q.2.1,true,Cy r⟩]).1},q.1.2),(x.dir.add [⟨r.key,r.eB,r.kind,q.2.1,true,Cy r⟩]).2)
def dX(k:Nat×Nat×Int)(x:fJ):az:=ex λp:Nat×Nat=>[bx k.1 145 (x.cs k.2.1 p.1 p.2 k.2.2),bx p.1 177 (x.wr.cs k.2.1),gS p.2 x.dir]
theorem Hj(r0:Rec)(hl:d.files.length<=100000000000)(hw:x.wr.kS)(gE:dI x.dir+1<=1000000000):
 TR ab GG 75 #[au S,.agg r0.cs.toArray] [dX (S,D,l) x,bM D d] (cb λv B=>v=.int .i64 (x.write d r0).2/\B=[dX (S,D,l) (x.write d r0).1.1,bM D (x.write d r0).1.2]):=by
 refine aW U λb β hb hG=>?_
 generalize bu:x.write d r0=res
 unfold fJ.write at bu
 have Fj:((x.last+1).toNat:Int)=cN.wrap ((x.last.toNat:Int)+1):=by
  have:=x.last.toNat_lt;unfold ic;simp[iW,gy]
 refine xP ?_
 intro b3
 refine X.ma dX (S,D,l) U λp=>?_
 obtain⟨W,K⟩:=p
 refine xD ?_
 rw[<-Fj]
 obtain⟨r,hr⟩:∃r:Rec,r=⟨x.last+1,r0.kind,r0.key,r0.val⟩:=⟨_,U⟩
 have hrc:[eL .u64 (x.last+1).toNat,.int .i64 r0.kind,ao r0.key,ao r0.val]=r.cs:=by rw[hr]
 have hlsn:x.last+1=r.eB:=by rw[hr]
 rw[hrc]
 dsimp only at bu
 rw[<-hr]at bu
 have zX:r0.key=r.key:=by rw[hr]
 have aN9:r0.kind=r.kind:=by rw[hr]
 rw[hlsn,zX,aN9]at bu
 clear hrc hr Fj zX aN9
 refine tU [0,3] [2,3] (ι:=Nat) (λb5 q_=>(5,au b5)::(6,.int .i64 (WD.put (x.wr,d) r).2.2)::q_) (λb5 q_=>bx b5 153 (WD.put (x.wr,d) r).2.1.cs::bx W 177 ((WD.put (x.wr,d) r).1.1.cs D)::bM D (WD.put (x.wr,d) r).1.2::q_) ?fin ?main
 case main=>
  intro KK dW;refine xS ?_;refine nR [0,1,2,3,4,5,7,8,9] [1,0] ?_;refine xL [0,1,2,3,4,5] ?_;refine dA U U U U U ?_ ?_
  ·refine xH (Yn W D (x.wr,d) r hl hw) ?_;generalize WD.put (x.wr,d) r=z at*;obtain⟨⟨w1,d1⟩,p1,e1⟩:=z;dsimp only at dW ⊢;refine xS ?_;refine xL [7,8,9] ?_;refine xA ?_;intro b5;exact X.W (dW b5)
  ·refine xA ?_;intro b5;refine xH (Yn W D (x.wr,d) r hl hw) ?_;generalize WD.put (x.wr,d) r=z at*;obtain⟨⟨w1,d1⟩,p1,e1⟩:=z;dsimp only at dW ⊢;refine xS ?_;refine xL [8,9] ?_;refine xS ?_;exact X.W (dW b5)
 case fin=>
  intro b5;generalize WD.put (x.wr,d) r=z at*;obtain⟨⟨w1,d1⟩,p1,e1⟩:=z;dsimp only at bu ⊢;refine xB ?_ ?_<;>intro h1
  ·have h1:e1≠0:=by grind
   rw[if_pos h1]at bu;subst bu;refine xS ?_;refine ei hG (zo GG S D W K l {x with wr:=w1} e1) U U U (ay (A:=[bx S 145 (x.cs D W K l),bx b5 153 p1.cs,bx b3 151 r.cs,bx W 177 (w1.cs D),gS K x.dir,bM D d1])) ?_;rintro v B ⟨rfl,rfl⟩;refine xD ?_;refine fi dX (S,D,l) (fJ.qI {x with wr:=w1} e1) U (W,K) ?_;exact xR
  ·have h1:¬e1≠0:=by grind
   rw[if_neg h1]at bu;have hrb:Cy r=if ca (fj r)=0 then eE (fj r)else[]:=U;refine xS ?_;refine bw (oE GG (fj r)) ?_;rintro v B (⟨h0,a7,c7,rfl,rfl⟩|⟨h0,rfl,rfl⟩)
   ·rw[if_pos h0]at hrb;rw[hrb]at bu;subst bu;have Fh:=r7 h0;dsimp only[ae,ai,ah];refine iE a7 (l:=eE (fj r)) U λ_=>xS ?_;refine fM (uC [0,1,2,3,4,5,6,7,8,9,10,11,12,13,14]) [bx S 145 (fJ.cs D W K l {x with wr:=w1,last:=r.eB}),bx b5 153 p1.cs,bx b3 151 r.cs,bV RB 1 a7 (eE (fj r))] U ?_;refine xL [0,1,2,3,4,5,6,7,8,9,10,11,12,13,14] ?_;refine xS ?_;refine lB U U iA iA iA iA iA iA λb56=>?_;refine iu (sz:=8) b56 Seen.cs [(⟨r.key,r.eB,r.kind,p1,true,eE (fj r)⟩:Seen)] U (λ_=>rfl)  ?_;refine xE (Aw GG K x.dir (some ⟨b56,0,none⟩) 1 1 [(⟨r.key,r.eB,r.kind,p1,true,eE (fj r)⟩:Seen)] U bB) ?_;refine fi dX (S,D,l) {x with wr:=w1,last:=r.eB,dir:=(x.dir.add [⟨r.key,r.eB,r.kind,p1,true,eE (fj r)⟩]).1} U (W,K) ?_;exact xR
   ·rw[if_neg h0]at hrb;rw[hrb]at bu;subst bu;dsimp only[ae,ai,ah];refine jl UInt8 RB 1 (xS ?_);refine fM (uC [0,1,2,3,4,5,6,7,8,9,10,11,12,13,14]) [bx S 145 (fJ.cs D W K l {x with wr:=w1,last:=r.eB}),bx b5 153 p1.cs,bx b3 151 r.cs,bV RB 1 none ([]:Bs)] U ?_;refine xL [0,1,2,3,4,5,6,7,8,9,10,11,12,13,14] ?_;refine xS ?_;refine lB U U iA iA iA iA iA iA λb56=>?_;refine iu (sz:=8) b56 Seen.cs [(⟨r.key,r.eB,r.kind,p1,true,[]⟩:Seen)] U (λ_=>rfl)  ?_;refine xE (Aw GG K x.dir (some ⟨b56,0,none⟩) 1 1 [(⟨r.key,r.eB,r.kind,p1,true,[]⟩:Seen)] U bB) ?_;refine fi dX (S,D,l) {x with wr:=w1,last:=r.eB,dir:=(x.dir.add [⟨r.key,r.eB,r.kind,p1,true,[]⟩]).1} U (W,K) ?_;exact xR
def B8(s:Bs):Bool:=decide (1<=s.length)&&decide (s.length<=64)
def Hk(e:Int)(r:Rec)(key:Bs)(eB:UInt64):Prop:=e=71\/e=91\/(e=0/\(r.kind≠1\/r.key≠key\/r.eB≠eB))
instance(e:Int)(r:Rec)(key:Bs)(eB:UInt64):Decidable (Hk e r key eB):=by unfold Hk;infer_instance
def fJ.get(x:fJ)(d:be)(key:Bs):be×Bs×Bool×Int:=
 if x.closed=true then(d,[],false,153)
 else if B8 key=false then(d,[],false,151)
 else if(x.dir.get key).2≠0 then(d,[],false,0)
 else
  let q:=kg d (x.dir.get key).1.place
  if Hk q.2.2 q.2.1 key (x.dir.get key).1.eB then(q.1,[],false,156)
  else if q.2.2≠0 then(q.1,[],false,q.2.2)
  else(q.1,q.2.1.val,true,0)
def LD(p:Place):Prop:=p.at_<=9223372036854775807/\p.len<=9223372036854775807
theorem ap1(key:Bs)(gE:dI x.dir<=1000000000)(tJ:LD (x.dir.get key).1.place):
 TR ab GG 78 #[au S,ao key] [dX (S,D,l) x,bM D d] (cb λv B=>v=.tuple #[ao (x.get d key).2.1,.bool (x.get d key).2.2.1,.int .i64 (x.get d key).2.2.2]/\B=[dX (S,D,l) x,bM D (x.get d key).1]):=by
 refine aW U λb β hb hG=>?_
 generalize bu:x.get d key=res
 unfold fJ.get at bu
 refine X.ma dX (S,D,l) U λp=>?_
 obtain⟨W,K⟩:=p
 refine xD ?_
 refine xB ?_ ?_<;>intro h1
 ·have h1:x.closed=true:=h1;rw[if_pos h1]at bu;exact bb5
 have h1:¬x.closed=true:=Ic
 rw[if_neg h1]at bu
 refine xS ?_
 have Az:B8 key=(decide (1<=key.length)&&decide (key.length<=64)):=U
 rw[<-Az]
 refine xB ?_ ?_<;>intro h2
 ·have h2:B8 key=false:=by simpa using h2
  rw[if_pos h2]at bu;exact bb5
 have h2:¬B8 key=false:=FG
 rw[if_neg h2]at bu
 refine xH (IC GG K x.dir key gE) ?_
 generalize x.dir.get key=g at*
 obtain⟨sn,ge⟩:=g
 dsimp only at bu tJ ⊢
 refine xA ?_
 intro b7
 refine xB ?_ ?_<;>intro h3
 ·have h3:ge≠0:=by simpa using h3
  rw[if_pos h3]at bu;exact bb5
 have h3:¬ge≠0:=OR
 rw[if_neg h3]at bu
 refine xS ?_
 refine tU [0,1,7] [4] (ι:=Nat) (λb9 q_=>(8,.int .i64 (kg d sn.place).2.2)::(9,au b9)::q_) (λb9 q_=>bx b9 151 (kg d sn.place).2.1.cs::bM D (kg d sn.place).1::q_) ?fin ?main
 case main=>
  intro KK dW;refine nR [0,1,2,3,4,5,7,8,9] [2,0] ?_;refine xL [0,1,2,3,4,5] ?_;refine dA U U U U U ?_ ?_
  ·refine xE (EG D d sn.place tJ.1 tJ.2) ?_;refine xL [7,8,9] ?_;refine xA ?_;intro b9;exact X.W (dW b9)
  ·refine xA ?_;intro b9;refine xE (EG D d sn.place tJ.1 tJ.2) ?_;refine xL [8,9] ?_;refine xS ?_;exact X.W (dW b9)
 case fin=>
  intro b9;generalize kg d sn.place=z at*;obtain⟨d1,r,e⟩:=z;dsimp only at bu ⊢;refine fi dX (S,D,l) x U (W,K) ?_;have bad:Hk e r key sn.eB->(d1,([]:Bs),false,(156:Int))=res:=λh=>by rw[if_pos h]at bu;exact bu
  have kS:¬Hk e r key sn.eB->(if e≠0 then(d1,([]:Bs),false,e)else(d1,r.val,true,0))=res:=λh=>by rw[if_neg h]at bu;exact bu
  clear bu;unfold Hk at bad kS;refine xT 44 ?_ ?_<;>intro h4
  ·have h4:e=71:=by simpa using h4
   have:=bad (.inl h4);subst this;exact xR
  have h4:¬e=71:=by simpa using h4
  refine xT 48 ?_ ?_<;>intro h5
  ·have h5:e=91:=by simpa using h5
   have:=bad (.inr (.inl h5));subst this;exact xR
  have h5:¬e=91:=by simpa using h5
  refine xT 51 ?_ ?_<;>intro h6
  ·have h6:e=0:=by simpa using h6
   refine xT 55 ?_ ?_<;>intro h7
   ·have h7:r.kind≠1:=by simpa using h7
    have:=bad (.inr (.inr ⟨h6,.inl h7⟩));subst this;exact xR
   have h7:¬r.kind≠1:=by simpa using h7
   refine xT 61 ?_ ?_<;>intro h8
   ·have h8:r.key≠key:=by simpa using h8
    have:=bad (.inr (.inr ⟨h6,.inr (.inl h8)⟩));subst this;exact xR
   have h8:¬r.key≠key:=by simpa using h8
   refine xB ?_ ?_<;>intro h9
   ·have h9:r.eB≠sn.eB:=by rintro h;rw[h]at h9;simp at h9
    have:=bad (.inr (.inr ⟨h6,.inr (.inr h9)⟩));subst this;exact xR
   have h9:r.eB=sn.eB:=gL.1 (by simp at h9;omega);have:=kS (λh=>h.elim h4 λh=>h.elim h5 λh=>h.2.elim h7 λh=>h.elim h8 λh=>h h9);rw[if_neg (by simp[h6])]at this;subst this;refine xS ?_;refine Cd (by simp[h6];rfl)  ?_;exact xR
  have h6:¬e=0:=by simpa using h6
  have:=kS (λh=>h.elim h4 λh=>h.elim h5 λh=>h6 h.1);rw[if_pos h6]at this;subst this;refine xB ?_ ?_<;>intro h9
  ·exact xR
  ·exact absurd (by simpa using h9) h6
theorem aS3{B:List az}(h:TD P G f args A B)(F:List az):TD P G f args (A++F) (B++F):=by
 intro β w hG hs u
 obtain⟨β',hβ,vV,nL⟩:=jH hs
 refine(h β' w (G.mono hβ hG) vV u).mono ?_
 grind
theorem aU4{ι:Type}{g1 g2:ι->List az}(h:∀i,TD P G f args (g1 i) (g2 i)):TD P G f args [ex g1] [ex g2]:=by
 intro β w hG hs u
 obtain⟨i,hi⟩:=iX hs
 rw[ah]at hi
 refine(h i β w hG hi u).mono ?_
 rintro e u' w' ⟨h1,h2,h3⟩
 refine⟨h1,h2,h3.cd ?_⟩
 have:=gU (f:=g2) i []
 grind
theorem gi(G:bZ)(S D:Nat)(x:fJ):TD ab G 71 (([au S]:List Value)++[]).toArray [dX (S,D,1) x] [dX (S,D,0) x]:=
 aU4 λp=>aS3 (R3 G S 145 [.int .u32 0,au D,.int .i64 x.cK,.int .i64 x.every,.bool x.jX,au p.1,au p.2,.int .u64 x.last.toNat,.bool x.closed,.bool x.broken]) [bx p.1 177 (x.wr.cs D),gS p.2 x.dir]
theorem o0(G:bZ)(S D:Nat)(x:fJ):TR ab G 70 #[au S] [dX (S,D,0) x] (cb λv B=>v=.tuple #[]/\B=[dX (S,D,1) x]):=by
 refine MP λp=>?_;refine(CM (ah3 G S 145 [.int .u32 0,au D,.int .i64 x.cK,.int .i64 x.every,.bool x.jX,au p.1,au p.2,.int .u64 x.last.toNat,.bool x.closed,.bool x.broken]) [bx p.1 177 (x.wr.cs D),gS p.2 x.dir]).dH (aN.refl _) ?_;rintro e B hB;cases e with
 |panicked ch=>exact hB.elim
 |outgrown=>exact hB.elim
 |returned v=>
  obtain⟨B',⟨rfl,rfl⟩,rfl⟩:=hB
  refine⟨_,⟨U,U⟩,?_⟩
  have:=gU (f:=λp:Nat×Nat=>[bx S 145 (x.cs D p.1 p.2 1),bx p.1 177 (x.wr.cs D),gS p.2 x.dir]) p []
  rwa [ah]at this
theorem l8{b:Frame}{β:bS}{vs:List (Nat×Value)}{Hs:List az}{R:Ending->List az->Prop}{k:List Item}{f f1:Nat}{rs:List ResultVar}(l9:mi b f)[hf:FR P f rs][rH:CF P f1]{us cap:List Value}{x y:az}{F:List az}(hG:G.on β)(hT:TD P G f1 (us++cap).toArray [x] [y])[hE:ES Hs [x] F]{l:List Value}(hl:jK P ⟨N,vs,[⟨.fn (.func f1) cap.toArray,us.toArray⟩]⟩ (y::F) rs l)(h:∃C,R (.returned (lx l)) C/\aN (y::F) C):
 X P b β none (.it (.code .ret::k)) ⟨N,vs,[⟨.fn (.func f1) cap.toArray,us.toArray⟩]⟩ Hs R:=aR7 l9 hG hT hE.out hl h
theorem OK(G:bZ)(S D:Nat)(x:fJ):TR ab G 48 #[au S] [dX (S,D,0) x] (cb λv B=>v=.int .u64 x.last.toNat/\B=[dX (S,D,0) x]):=by
 refine cg U λb β hb hG=>xS ?_;refine bw (o0 G S D x) ?_;rintro v B ⟨rfl,rfl⟩;refine xD ?_;refine A0 hb U U (xS ?_);refine X.ma dX (S,D,1) U λp=>?_;obtain⟨W,K⟩:=p;refine xD ?_;refine fi dX (S,D,1) x U (W,K) ?_;exact l8 (us:=[au S]) (cap:=[]) hb hG (gi G S D x) (.tmps U) ⟨_,⟨U,U⟩,ay⟩
def qJ(c:Bs)(e:Int)(A:List az)(v:Value)(B:List az):Prop:=∃B1,a14 c e v B1/\B=B1++A
theorem qJ.ok:qJ c 0 A .nilIface A:=⟨[],.inl ⟨U,U,U⟩,U⟩
theorem qJ.ok'(h:e=0):qJ c e A .nilIface A:=⟨[],.inl ⟨h,U,U⟩,U⟩
theorem qJ.err{p:Nat}(h:e≠0):qJ c e A (.iface 178 (au p)) (bx p 180 [ao c,.iface 23 (.int .i64 e)]::A):=⟨[_],.inr ⟨h,p,U,U⟩,U⟩
theorem xp(gE:dI x.dir<=1000000000):TR ab GG 35 #[au S] [dX (S,D,0) x] (cb λv B=>∃a c,v=.slice a (if x.closed=true then[]else x.dir.keys).length c/\B=[own 9 1 a (if x.closed=true then[]else x.dir.keys).length c ((if x.closed=true then[]else x.dir.keys).flatMap vs1),dX (S,D,0) x]):=by
 refine cg U λb β hb hG=>?_;refine xE (o0 GG S D x) ?_;refine A0 hb U U (xS ?_);refine X.ma dX (S,D,1) U λp=>?_;obtain⟨W,K⟩:=p;refine xD ?_;refine xB ?_ ?_<;>intro h
 ·have h:x.closed=true:=h;rw[if_pos h];refine xS ?_;refine fi dX (S,D,1) x U (W,K) ?_;refine X.cd (ej 9 1 _) ?_;exact l8 (us:=[au S]) (cap:=[]) hb hG (gi GG S D x) (.tmps U) ⟨_,⟨none,0,U,U⟩,(show aN _ [own 9 1 none 0 0 [],dX (S,D,0) x]from ay)⟩
 ·have h:¬x.closed=true:=by grind
  rw[if_neg h];refine xS ?_;refine bw (XI GG K x.dir gE) ?_;rintro v B ⟨a,c,rfl,rfl⟩;refine xD ?_;refine fi dX (S,D,1) x U (W,K) ?_;exact l8 (us:=[au S]) (cap:=[]) hb hG (gi GG S D x) (.tmps U) ⟨_,⟨a,c,U,U⟩,ay⟩
@[reducible] def a15:Bs:=[71,101,116]
theorem Hl(key:Bs)(gE:dI x.dir<=1000000000)(tJ:LD (x.dir.get key).1.place):TR ab GG 45 #[au S,ao key] [dX (S,D,0) x,bM D d] (cb λv B=>∃u,v=.tuple #[ao (x.get d key).2.1,.bool (x.get d key).2.2.1,u]/\qJ a15 (x.get d key).2.2.2 [dX (S,D,0) x,bM D (x.get d key).1] u B):=by
 refine aW U λb β hb hG=>xS ?_;refine bw (o0 GG S D x) ?_;rintro v B ⟨rfl,rfl⟩;refine xD ?_;refine A0 hb U U (xS ?_);refine bw (ap1 S D 1 x d key gE tJ) ?_;rintro v B ⟨rfl,rfl⟩;dsimp only[ae,ai,ah];generalize x.get d key=z at*;obtain⟨d1,val,is,e⟩:=z;dsimp only;refine xS ?_;refine bw (gh GG a15 e) ?_;rintro v B (⟨he,rfl,rfl⟩|⟨he,p,rfl,rfl⟩)
 ·refine xD ?_;exact l8 (us:=[au S]) (cap:=[]) hb hG (gi GG S D x) (.tmps U) ⟨_,⟨_,U,.ok' he⟩,ay⟩
 ·refine xD ?_;exact l8 (us:=[au S]) (cap:=[]) hb hG (gi GG S D x) (.tmps U) ⟨_,⟨_,U,.err he⟩,ay⟩
@[reducible] def a16:Bs:=[80,117,116]
def fJ.put(x:fJ)(d:be)(key val:Bs):(fJ×be)×Int:=
 if x.closed=true then((x,d),153)
 else if B8 key=false then((x,d),151)
 else if 2048<val.length then((x,d),152)
 else if x.writes 1=0 then x.write d ⟨0,1,key,val⟩
 else((x,d),x.writes 1)
theorem To(key val:Bs)(hl:d.files.length<=100000000000)(hw:x.wr.kS)(gE:dI x.dir+1<=1000000000):TR ab GG 43 #[au S,ao key,ao val] [dX (S,D,0) x,bM D d] (cb λv B=>qJ a16 (x.put d key val).2 [dX (S,D,0) (x.put d key val).1.1,bM D (x.put d key val).1.2] v B):=by
 refine jr U λb β hb hG=>?_
 refine xE (o0 GG S D x) ?_
 refine A0 hb U U (xS ?_)
 generalize bu:x.put d key val=res
 unfold fJ.put at bu
 have Az:B8 key=(decide (1<=key.length)&&decide (key.length<=64)):=U
 refine X.ma dX (S,D,1) U λp=>?_
 obtain⟨W,K⟩:=p
 dsimp only[ae,ai,ah]
 refine ei hG (Hi GG S D W K 1 x 1 de) U U U (ay (A:=[bx S 145 (x.cs D W K 1),bx W 177 (x.wr.cs D),gS K x.dir,bM D d])) ?_
 rintro v B ⟨rfl,rfl⟩
 refine xD ?_
 refine jI (ι:=Unit) (λ_=>([(7,.int .i64 res.2)],[dX (S,D,1) res.1.1,bM D res.1.2])) ?fin ?main
 case main=>
  intro KK dW;refine xB ?_ ?_<;>intro h1
  ·have h1:x.closed=true:=h1;rw[if_pos h1]at bu;exact PO
  have h1:¬x.closed=true:=bE;rw[if_neg h1]at bu;refine xS ?_;rw[<-Az];refine xB ?_ ?_<;>intro h2
  ·have h2:B8 key=false:=by grind
   rw[if_pos h2]at bu;exact PO
  have h2:¬B8 key=false:=bE;rw[if_neg h2]at bu;refine xB ?_ ?_<;>intro h3
  ·have h3:2048<val.length:=by grind
   rw[if_pos h3]at bu;exact PO
  have h3:¬2048<val.length:=bE;rw[if_neg h3]at bu;refine xB ?_ ?_<;>intro h4
  ·have h4:x.writes 1=0:=by grind
   rw[if_pos h4]at bu;subst bu;refine xS ?_;refine fi dX (S,D,1) x U (W,K) ?_;refine xE (Hj S D 1 x d ⟨0,1,key,val⟩ hl hw gE) ?_;exact X.W (dW ())
  have h4:¬x.writes 1=0:=bE;rw[if_neg h4]at bu;exact PO
 case fin=>
  intro _;dsimp only;obtain⟨⟨x1,d1⟩,e⟩:=res;dsimp only;refine xS ?_;refine bw (gh GG a16 e) ?_;exact bl9
@[reducible] def LF:Bs:=[83,121,110,99]
def fJ.sync(x:fJ)(d:be):(fJ×be)×Int:=
 if x.closed=true then((x,d),153)else if x.broken=true then((x,d),155)
 else((fJ.qI {x with wr:=(WD.sync (x.wr,d)).1.1} (WD.sync (x.wr,d)).2,(WD.sync (x.wr,d)).1.2),(WD.sync (x.wr,d)).2)
theorem OL:TR ab GG 46 #[au S] [dX (S,D,0) x,bM D d] (cb λv B=>qJ LF (x.sync d).2 [dX (S,D,0) (x.sync d).1.1,bM D (x.sync d).1.2] v B):=by
 refine cg U λb β hb hG=>?_;refine xE (o0 GG S D x) ?_;refine A0 hb U U (xS ?_);generalize bu:x.sync d=res;unfold fJ.sync at bu;refine X.ma dX (S,D,1) U λp=>?_;obtain⟨W,K⟩:=p;refine xD ?_;refine xB ?_ ?_<;>intro h1
 ·have h1:x.closed=true:=h1;rw[if_pos h1]at bu;subst bu;refine xS ?_;refine fi dX (S,D,1) x U (W,K) ?_;refine bw (gh GG LF 153) ?_;exact mz0
 have h1:¬x.closed=true:=bE;rw[if_neg h1]at bu;refine xB ?_ ?_<;>intro h2
 ·have h2:x.broken=true:=h2;rw[if_pos h2]at bu;subst bu;refine xS ?_;refine fi dX (S,D,1) x U (W,K) ?_;refine bw (gh GG LF 155) ?_;exact mz0
 have h2:¬x.broken=true:=bE;rw[if_neg h2]at bu;subst bu;refine xH (EF W D (x.wr,d)) ?_;generalize WD.sync (x.wr,d)=z at*;obtain⟨⟨w1,d1⟩,e⟩:=z;dsimp only;refine xS ?_;refine ei hG (zo GG S D W K 1 {x with wr:=w1} e) U U U (ay (A:=[bx S 145 (x.cs D W K 1),bx W 177 (w1.cs D),gS K x.dir,bM D d1])) ?_;rintro v B ⟨rfl,rfl⟩;refine xD ?_;refine fi dX (S,D,1) (fJ.qI {x with wr:=w1} e) U (W,K) ?_;refine bw (gh GG LF e) ?_;rintro v B (⟨he,rfl,rfl⟩|⟨he,p,rfl,rfl⟩)
 ·refine xD ?_;exact l8 (l:=[.nilIface]) (us:=[au S]) (cap:=[]) hb hG (gi GG S D (fJ.qI {x with wr:=w1} e)) (.tmps U) ⟨_,qJ.ok' he,ay⟩
 ·refine xD ?_;exact l8 (l:=[.iface 178 (au p)]) (us:=[au S]) (cap:=[]) hb hG (gi GG S D (fJ.qI {x with wr:=w1} e)) (.tmps U) ⟨_,qJ.err he,ay⟩
@[reducible] def IS:Bs:=[67,108,111,115,101]
def fJ.close(x:fJ)(d:be):(fJ×be)×Int:=
 if x.closed=true then((x,d),153)else if x.broken=true then(({x with closed:=true},d),0)
 else(({x with closed:=true,wr:=(WD.close (x.wr,d)).1.1},(WD.close (x.wr,d)).1.2),(WD.close (x.wr,d)).2)
theorem LG:TR ab GG 50 #[au S] [dX (S,D,0) x,bM D d] (cb λv B=>qJ IS (x.close d).2 [dX (S,D,0) (x.close d).1.1,bM D (x.close d).1.2] v B):=by
 refine cg U λb β hb hG=>?_;refine xE (o0 GG S D x) ?_;refine A0 hb U U (xS ?_);generalize bu:x.close d=res;unfold fJ.close at bu;refine X.ma dX (S,D,1) U λp=>?_;obtain⟨W,K⟩:=p;refine xD ?_;refine xB ?_ ?_<;>intro h1
 ·have h1:x.closed=true:=h1;rw[if_pos h1]at bu;subst bu;refine xS ?_;refine fi dX (S,D,1) x U (W,K) ?_;refine bw (gh GG IS 153) ?_;exact mz0
 have h1:¬x.closed=true:=bE;rw[if_neg h1]at bu;refine xB ?_ ?_<;>intro h2
 ·have h2:x.broken=true:=h2;rw[if_pos h2]at bu;subst bu;refine xS ?_;refine fi dX (S,D,1) {x with closed:=true} U (W,K) ?_;exact l8 (l:=[.nilIface]) (us:=[au S]) (cap:=[]) hb hG (gi GG S D {x with closed:=true}) (.tmps U) ⟨_,qJ.ok,ay⟩
 have h2:¬x.broken=true:=bE;rw[if_neg h2]at bu;subst bu;refine xH (BH W D (x.wr,d)) ?_;generalize WD.close (x.wr,d)=z at*;obtain⟨⟨w1,d1⟩,e⟩:=z;dsimp only;refine xS ?_;refine fi dX (S,D,1) {x with closed:=true,wr:=w1} U (W,K) ?_;refine bw (gh GG IS e) ?_;rintro v B (⟨he,rfl,rfl⟩|⟨he,p,rfl,rfl⟩)
 ·refine xD ?_;exact l8 (l:=[.nilIface]) (us:=[au S]) (cap:=[]) hb hG (gi GG S D {x with closed:=true,wr:=w1}) (.tmps U) ⟨_,qJ.ok' he,ay⟩
 ·refine xD ?_;exact l8 (l:=[.iface 178 (au p)]) (us:=[au S]) (cap:=[]) hb hG (gi GG S D {x with closed:=true,wr:=w1}) (.tmps U) ⟨_,qJ.err he,ay⟩
structure fJ.ok(x:fJ)(N:Nat):Prop where
 wr:x.wr.kS
 dir:x.dir.ok
 sum:dI x.dir<=N
theorem fJ.ok.mono{x:fJ}{M:Nat}(h:x.ok N)(hm:N<=M):x.ok M:=⟨h.wr,h.dir,aj h.sum hm⟩
theorem xX{x:fJ}(h:x.ok N)(d:be)(r0:Rec):(x.write d r0).1.1.ok (N+1)/\(x.write d r0).1.2.files.length<=d.files.length+1:=by
 unfold fJ.write;dsimp only;have hg:=Ji (x.wr,d) ⟨x.last+1,r0.kind,r0.key,r0.val⟩ h.wr;have hl:=MJ (x.wr,d) ⟨x.last+1,r0.kind,r0.key,r0.val⟩;split
 ·exact⟨⟨hg,h.dir,aj h.sum (gk _)⟩,hl⟩
 ·have ha:=qe h.dir [⟨r0.key,x.last+1,r0.kind,(WD.put (x.wr,d) ⟨x.last+1,r0.kind,r0.key,r0.val⟩).2.1,true,Cy ⟨x.last+1,r0.kind,r0.key,r0.val⟩⟩];have hs:=h.sum;exact⟨⟨hg,ha.1,by grind⟩,hl⟩
@[reducible] def zp:Bs:=[68,101,108,101,116,101]
def fJ.want(x:fJ):List Bs->List Bs->Option (List Bs)
 |[],acc=>some acc
 |k::r,acc=>if B8 k=false then none else fJ.want x r (if(x.dir.get k).2=0/\k∉acc then acc++[k]else acc)
def tj:List Bs->fJ->be->Int->(fJ×be)×Int
 |[],x,d,e=>((x,d),e)
 |k::r,x,d,e=>if e≠0 then((x,d),e)else tj r (x.write d ⟨0,2,k,[]⟩).1.1 (x.write d ⟨0,2,k,[]⟩).1.2 (x.write d ⟨0,2,k,[]⟩).2
def fJ.delete(x:fJ)(d:be)(ks:List Bs):(fJ×be)×Int:=
 if x.closed=true then((x,d),153)else
 match x.want ks []with
 |none=>((x,d),151)
 |some w=>tj w x d (x.writes w.length)
theorem LH(x:fJ):∀(ks acc w:List Bs),x.want ks acc=some w->w.length<=acc.length+ks.length
 |[],acc,w,h=>by cases h;exact ar _
 |k::r,acc,w,h=>by
  unfold fJ.want at h;split at h
  ·cases h
  ·have:=LH x r _ w h
   grind
theorem IU(a:Option Addr)(n c:Nat)(ks:List Bs)(hn:ks.length=n)(N:Nat)(hx:x.ok N)(hN:N+n<=900000000)(hl:d.files.length<=90000000000):TR ab GG 44 #[au S,.slice a n c] [dX (S,D,0) x,bM D d,bV (bp vs1) 1 a ks] (cb λv B=>qJ zp (x.delete d ks).2 [dX (S,D,0) (x.delete d ks).1.1,bM D (x.delete d ks).1.2] v B):=by
 refine aW U λb β hb hG=>?_
 refine xE (o0 GG S D x) ?_
 refine A0 hb U U (xS ?_)
 subst hn
 generalize bu:x.delete d ks=res
 unfold fJ.delete at bu
 have pf:=hx.sum
 refine X.ma dX (S,D,1) U λp=>?_
 obtain⟨W,K⟩:=p
 refine xD ?_
 refine xB ?_ ?_<;>intro h1
 ·have h1:x.closed=true:=h1;rw[if_pos h1]at bu;subst bu;refine xS ?_;refine fi dX (S,D,1) x U (W,K) ?_;refine bw (gh GG zp 153) ?_;exact mz0
 have h1:¬x.closed=true:=bE
 rw[if_neg h1]at bu
 refine xS ?_
 refine X.cd (ej 9 1 _) ?_
 generalize hW0:x.want ks []=W0 at*
 refine eT [0,25] [0] (ι:={z:Nat×(Option Addr×Nat)×List Bs // z.1<=ks.length/\z.2.2.length<=z.1/\x.want (ks.drop z.1) z.2.2=W0}) (λz q_=>(5,.slice z.1.2.1.1 z.1.2.2.length z.1.2.1.2)::(26,aX ks.length)::(27,aX z.1.1)::q_) (λz q_=>own 9 1 z.1.2.1.1 z.1.2.2.length z.1.2.1.2 (z.1.2.2.flatMap vs1)::q_) (λz=>ks.length - z.1.1) ⟨(0,(none,0),[]),al _,ar _,hW0⟩ ?_
 rintro⟨⟨i,⟨a5,c5⟩,w⟩,hi,hwl,hw⟩ ih
 dsimp only at hi hwl hw ih ⊢
 refine xB ?_ ?_<;>intro h2
 ·have hi:i<ks.length:=by grind
  rw[aP hi]at hw;refine xS ?_;refine cH U U U U U hi U λbl o=>?_;generalize ks[i]=k at*;have Az:B8 k=(decide (1<=k.length)&&decide (k.length<=64)):=U;unfold fJ.want at hw;refine xS ?_;rw[<-Az];refine xB ?_ ?_<;>intro h3
  ·have h3:B8 k=false:=by grind
   rw[if_pos h3]at hw;subst hw;have bu:((x,d),151)=res:=bu;subst bu;refine xS ?_;refine fi dX (S,D,1) x U (W,K) ?_;refine bw (gh GG zp 151) ?_;exact mz0
  have h3:¬B8 k=false:=bE;rw[if_neg h3]at hw;refine xH (IC GG K x.dir k av) ?_;generalize x.dir.get k=g at*;refine xA ?_;intro b8;refine xT 47 ?_ ?_<;>intro h4
  ·have h4:g.2=0:=by grind
   refine xS ?_;refine bw (mf (e:=9) (c:=c5) (Df GG a5 _ c5 w k U av) aZ3 U (λ_=>rfl)) ?_;rintro v B ⟨_,⟨rfl,rfl⟩,rfl⟩;refine xD ?_;refine xB ?_ ?_<;>intro h5
   ·have h5:k∉w:=by grind
    rw[if_pos ⟨h4,h5⟩]at hw;refine xZ ?_;intro b55;refine eD (k) U U U U av U iA iA iA iA iA av λa56 c56=>xS ?_;exact X.W (ih ⟨(i+1,(a56,c56),w++[k]),by omega,by grind,hw⟩ bE)
   ·have h5:¬k∉w:=by grind
    rw[if_neg (λh=>h5 h.2)]at hw;exact bu8
  ·have h4:¬g.2=0:=by grind
   rw[if_neg (λh=>h4 h.1)]at hw;exact bu8
 have fw:i=ks.length:=bE
 subst fw
 rw[bc (ar _)]at hw
 have hw:some w=W0:=hw
 subst hw
 have bu:tj w x d (x.writes w.length)=res:=bu
 clear ih h2 hi hW0
 refine xS ?_
 refine ei hG (Hi GG S D W K 1 x w.length av) U U U (ay (A:=[bx S 145 (x.cs D W K 1),bx W 177 (x.wr.cs D),gS K x.dir,bM D d,own 9 1 a5 w.length c5 (w.flatMap vs1)])) ?_
 rintro v B ⟨rfl,rfl⟩
 dsimp only[ae,ai,ah]
 refine dE a5 vs1 w U U (λ_=>rfl) λ_=>?_
 refine fi dX (S,D,1) x U (W,K) ?_
 generalize x.writes w.length=e0 at*
 refine xS ?_
 refine nh (ι:=Unit) (λ_=>([(10,.int .i64 res.2)],[dX (S,D,1) res.1.1,bM D res.1.2])) ?fin ?main
 case main=>
  intro KK dW;refine eT [0,62] [0,1] (ι:={z:Nat×fJ×be×Int // z.1<=w.length/\z.2.1.ok (N+z.1)/\z.2.2.1.files.length<=d.files.length+z.1/\tj (w.drop z.1) z.2.1 z.2.2.1 z.2.2.2=res}) (λz q_=>(10,.int .i64 z.1.2.2.2)::(63,aX w.length)::(64,aX z.1.1)::q_) (λz q_=>dX (S,D,1) z.1.2.1::bM D z.1.2.2.1::q_) (λz=>w.length - z.1.1) ⟨(0,x,d,e0),al _,hx,ar _,bu⟩ ?_;rintro⟨⟨i,x1,d1,e1⟩,hi,jz,Fl,IA⟩ ih;dsimp only at hi jz Fl IA ih ⊢;have hsm1:=jz.sum;refine xB ?_ ?_<;>intro h2
  ·have hi:i<w.length:=by grind
   rw[aP hi]at IA;refine xS ?_;refine cH U U U U U hi U λbl o=>?_;generalize w[i]=k at*;unfold tj at IA;refine xB ?_ ?_<;>intro h3
   ·have h3:e1≠0:=by grind
    rw[if_pos h3]at IA;subst IA;exact aB3
   ·have h3:¬e1≠0:=by grind
    rw[if_neg h3]at IA;have hwo:=xX jz d1 ⟨0,2,k,[]⟩;refine xQ (Hj S D 1 x1 d1 ⟨0,2,k,[]⟩ av jz.wr av) ?_;generalize x1.write d1 ⟨0,2,k,[]⟩=z at*;refine xS ?_;exact X.W (ih ⟨(i+1,z.1.1,z.1.2,z.2),by dsimp only;omega,hwo.1,by have:=hwo.2;dsimp only;omega,IA⟩ gm)
  ·have fw:i=w.length:=by grind
   subst fw;rw[bc (ar _)]at IA;have IA:((x1,d1),e1)=res:=IA;subst IA;exact aB3
 case fin=>
  intro _;dsimp only;clear bu;obtain⟨⟨x1,d1⟩,e⟩:=res;dsimp only;refine xS ?_;refine bw (gh GG zp e) ?_;exact bl9
def stX(S:Nat)(k:Nat×Int×Int):az:=ex λq:Int×Int×Bool×Nat×Nat×Int×Bool×Bool=>[bx S 145 [.int .i32 q.1,.int .u32 q.2.1,au k.1,.int .i64 k.2.1,.int .i64 k.2.2,.bool q.2.2.1,au q.2.2.2.1,au q.2.2.2.2.1,.int .u64 q.2.2.2.2.2.1,.bool q.2.2.2.2.2.2.1,.bool q.2.2.2.2.2.2.2]]
instance FP.stX(Hs rest:List az)(S D:Nat)(lim ev l u t:Int)(f c br:Bool)(W K:Nat)[hf:FB Hs S 145 [.int .i32 l,.int .u32 u,au D,.int .i64 lim,.int .i64 ev,.bool f,au W,au K,.int .u64 t,.bool c,.bool br] rest]:FP Hs (stX S (D,lim,ev)) rest:=
 ⟨hf.out.trans (gU (f:=λq:Int×Int×Bool×Nat×Nat×Int×Bool×Bool=>[bx S 145 [.int .i32 q.1,.int .u32 q.2.1,au D,.int .i64 lim,.int .i64 ev,.bool q.2.2.1,au q.2.2.2.1,au q.2.2.2.2.1,.int .u64 q.2.2.2.2.2.1,.bool q.2.2.2.2.2.2.1,.bool q.2.2.2.2.2.2.2]]) (l,u,f,W,K,t,c,br) rest)⟩
@[reducible] def EH:Bs:=[77,101,114,103,101]
def fJ.OM(x:fJ):Prop:=64<=x.cK/\x.cK<=1048576/\0<=x.every/\x.every<=1000
@[reducible] def fJ.wr0(x:fJ):Wr:=⟨x.cK.toNat,x.every.toNat,0,0,0,0,false⟩
def ap2(a b:UInt64):UInt64:=if a<b then b else a
def fJ.Yr(x:fJ)(d:be):(fJ×be)×Int:=((fJ.qI {x with wr:=(WD.close (x.wr,d)).1.1} (WD.close (x.wr,d)).2,(WD.close (x.wr,d)).1.2),(WD.close (x.wr,d)).2)
def fJ.mg2(x:fJ)(d:be):(fJ×be)×Int:=
 (({fJ.qI x (lu d x.cK).2 with dir:=uf (lu d x.cK).1.all,last:=ap2 x.last (fE (uf (lu d x.cK).1.all).top)},(lu d x.cK).1),(lu d x.cK).2)
def oC(q:(fJ×be)×Int):(fJ×be)×Int:=if q.2=0 then q.1.1.mg2 q.1.2 else q
def fJ.merge(x:fJ)(d:be):(fJ×be)×Int:=
 if x.closed=true then((x,d),153)else if x.broken=true then((x,d),155)
 else(({(oC (x.Yr d)).1.1 with wr:=(oC (x.Yr d)).1.1.wr0},(oC (x.Yr d)).1.2),(oC (x.Yr d)).2)
theorem LI(hc:x.OM)(hl:d.files.length<=50000000000)(Fl:(WD.close (x.wr,d)).1.2.files.length<=50000000000)(pz:(lu (WD.close (x.wr,d)).1.2 x.cK).1.files.length<=100000000000):TR ab GG 49 #[au S] [dX (S,D,0) x,bM D d] (cb λv B=>qJ EH (x.merge d).2 [dX (S,D,0) (x.merge d).1.1,bM D (x.merge d).1.2] v B):=by
 refine cg U λb β hb hG=>?_
 refine xE (o0 GG S D x) ?_
 refine A0 hb U U (xS ?_)
 generalize bu:x.merge d=res
 unfold fJ.merge at bu
 refine X.ma dX (S,D,1) U λp=>?_
 obtain⟨W,K⟩:=p
 refine xD ?_
 refine xB ?_ ?_<;>intro h1
 ·have h1:x.closed=true:=h1;rw[if_pos h1]at bu;subst bu;refine xS ?_;refine fi dX (S,D,1) x U (W,K) ?_;refine bw (gh GG EH 153) ?_;exact mz0
 have h1:¬x.closed=true:=bE
 rw[if_neg h1]at bu
 refine xB ?_ ?_<;>intro h2
 ·have h2:x.broken=true:=h2;rw[if_pos h2]at bu;subst bu;refine xS ?_;refine fi dX (S,D,1) x U (W,K) ?_;refine bw (gh GG EH 155) ?_;exact mz0
 have h2:¬x.broken=true:=bE
 rw[if_neg h2]at bu
 refine xH (BH W D (x.wr,d)) ?_
 have py:x.Yr d=((fJ.qI {x with wr:=(WD.close (x.wr,d)).1.1} (WD.close (x.wr,d)).2,(WD.close (x.wr,d)).1.2),(WD.close (x.wr,d)).2):=U
 generalize WD.close (x.wr,d)=z at*
 obtain⟨⟨w1,d1⟩,e⟩:=z
 dsimp only at py Fl pz ⊢
 rw[py]at bu
 clear py
 refine xS ?_
 refine ei hG (zo GG S D W K 1 {x with wr:=w1} e) U U U (ay (A:=[bx S 145 (x.cs D W K 1),bx W 177 (w1.cs D),gS K x.dir,bM D d1])) ?_
 rintro v B ⟨rfl,rfl⟩
 refine xD ?_
 obtain⟨x1,jz⟩:∃x1,x1=fJ.qI {x with wr:=w1} e:=⟨_,U⟩
 have hlim:x1.cK=x.cK:=by rw[jz]
 have Db:x1.OM:=by rw[jz];exact hc
 have hdr:x1.dir=x.dir:=by rw[jz]
 have hww:x1.wr=w1:=by rw[jz]
 rw[<-jz]at bu ⊢
 rw[<-hlim]at pz
 rw[<-hdr,<-hww]
 clear jz hdr hww hlim hc
 have hm3:oC ((x1,d1),e)=if e=0 then x1.mg2 d1 else((x1,d1),e):=U
 generalize oC ((x1,d1),e)=q at*
 refine jI (ι:={z:Nat×Nat // q.1.1.OM}) (λz=>([(0,au S),(3,.int .i64 q.2)],[bx S 145 (q.1.1.cs D z.1.1 z.1.2 1),bx z.1.1 177 (q.1.1.wr.cs D),gS z.1.2 q.1.1.dir,bM D q.1.2])) ?fin ?main
 case main=>
  intro KK dW;refine xB ?_ ?_<;>intro h3
  ·have h3:e=0:=by grind
   rw[if_pos h3]at hm3;subst h3;have HU:x1.mg2 d1=(({fJ.qI x1 (lu d1 x1.cK).2 with dir:=uf (lu d1 x1.cK).1.all,last:=ap2 x1.last (fE (uf (lu d1 x1.cK).1.all).top)},(lu d1 x1.cK).1),(lu d1 x1.cK).2):=U;refine xS ?_;refine fM (uC [0,1,2,3,4,5,6,7,8,9]) [stX S (D,x1.cK,x1.every)] U ?_;apply cW [0,1,2,3,4,5,6,7,8,9] U U U
   ·intro p hp;refine X.ma stX S U λq=>xD ?_;refine fi stX S (D,x1.cK,x1.every) U q ?_;exact hp
   ·rfl
   ·rfl
   refine xH (Yj D d1 x1.cK Fl) ?_;generalize lu d1 x1.cK=r at*;obtain⟨d2,e2⟩:=r;dsimp only at HU pz ⊢;refine xS ?_;refine ei hG (zo GG S D W K 1 x1 e2) U U U (ay (A:=[bx S 145 (x1.cs D W K 1),bx W 177 (x1.wr.cs D),gS K x1.dir,bM D d2])) ?_;rintro v B ⟨rfl,rfl⟩;refine xD ?_;refine ei hG (Tn D d2 pz) U U U (ay (A:=[bM D d2,bx S 145 ((x1.qI e2).cs D W K 1),bx W 177 (x1.wr.cs D)])) ?_;rintro v B ⟨K2,rfl,rfl⟩;dsimp only[ae,ai,ah];refine tE D λdp=>?_;have hds:dI (uf d2.all)<=1000000000:=by
    have h1:=(OJ (lN d2.all)).2;have h2:=qC d2.all;rw[qD dp]at h2;have h3:=dp.vX;have h4:=dp.le;have h5:=dp.cap;unfold uf;omega
   have NN:=G9 (uf d2.all);have hmx:(if((x1.last.toNat:Nat):Int)<((uf d2.all).top:Nat)then(((uf d2.all).top:Nat):Int)else((x1.last.toNat:Nat):Int))=(((ap2 x1.last (fE (uf d2.all).top)).toNat:Nat):Int):=by
    grind [UInt64.toNat_ofNat',ap2,UInt64.lt_iff_toNat_lt]
   generalize uf d2.all=dr at*;refine xS ?_;refine eR 10 [0] ?_;refine xL [0,1,2,3,4,5,6,7,8,9] ?_;refine xE (XJ GG K2 dr hds) ?_;rw[hmx];refine xS ?_;rw[hm3,HU]at dW;exact X.W (dW ⟨(W,K2),Db⟩)
  ·have h3:¬e=0:=by grind
   rw[if_neg h3]at hm3;subst hm3;refine xS ?_;exact X.W (dW ⟨(W,K),Db⟩)
 case fin=>
  rintro⟨⟨W,K⟩,hcq⟩
  dsimp only
  subst bu
  clear hm3 Fl pz
  obtain⟨⟨x2,d2⟩,e2⟩:=q
  dsimp only at hcq ⊢
  refine xS ?_
  refine jI (ι:=Nat) (λW2=>([(3,.int .i64 e2)],[dX (S,D,1) {x2 with wr:=x2.wr0},bM D d2])) ?f2 ?m2
  case m2=>
   intro KK dW;refine fM (uC [0,1,2,3,4,5,6,7,8,9,10,11,12,13,14,16,17,18]) [stX S (D,x2.cK,x2.every)] U ?_;apply cW [0,1,2,3,4,5,6,7,8,9,10,11,12,13,14] U U U
   ·intro p hp;refine X.ma stX S U λq=>xD ?_;refine fi stX S (D,x2.cK,x2.every) U q ?_;exact hp
   ·rfl
   ·rfl
   refine xS ?_;refine bw (KX GG D x2.cK x2.every) ?_;rintro v B (⟨rA,rfl,rfl⟩|⟨_,W2,rfl,rfl⟩)
   ·exact absurd hcq rA
   ·refine xD ?_;refine xL [17,18] ?_;refine xS ?_;refine fi dX (S,D,1) {x2 with wr:=x2.wr0} U (W2,K) ?_;exact X.W (dW W2)
  case f2=>
   intro W2;dsimp only;refine xS ?_;refine bw (gh GG EH e2) ?_;rintro v B (⟨he,rfl,rfl⟩|⟨he,p,rfl,rfl⟩)
   ·refine xD ?_;exact l8 (l:=[.nilIface]) (us:=[au S]) (cap:=[]) hb hG (gi GG S D {x2 with wr:=x2.wr0}) (.tmps U) ⟨_,qJ.ok' he,ay⟩
   ·refine xD ?_;exact l8 (l:=[.iface 178 (au p)]) (us:=[au S]) (cap:=[]) hb hG (gi GG S D {x2 with wr:=x2.wr0}) (.tmps U) ⟨_,qJ.err he,ay⟩
end
section
variable(e:Int)(s:Bs)(D:Nat)(d:be)(jX:Bool)
@[reducible] def LJ:Bs:=[79,112,101,110]
def EI(cK every:Int):Prop:=64<=cK/\cK<=1048576/\0<=every/\every<=1000
instance(cK every:Int):Decidable (EI cK every):=by unfold EI;infer_instance
def kY(d:be)(jX:Bool):be×Except Int Z8:=if jX=true then xl d else s6 d
def gR(d:be)(cK every:Int)(jX:Bool):be×Except Int (fJ×Z8):=
 if ¬EI cK every then(d,.error 150)else
 match(kY d jX).2 with
 |.error e=>((kY d jX).1,.error e)
 |.ok z=>if(kj (kY d jX).1).2≠0 then((kj (kY d jX).1).1,.error (kj (kY d jX).1).2)
  else((kj (kY d jX).1).1,.ok (⟨cK,every,jX,⟨cK.toNat,every.toNat,0,0,0,0,false⟩,z.dir,z.top,false,false⟩,z))
theorem ON{d:be}{jX:Bool}{e:Int}(h:(kY d jX).2=.error e):e≠0:=by
 grind [kY,xl,EC,s6,s7]
def tm(D:Nat)(r:be×Except Int (fJ×Z8))(v:Value)(B:List az):Prop:=match r.2 with
 |.error e=>e≠0/\∃p,v=.tuple #[.pointer none,.agg z89.toArray,.iface 178 (au p)]/\B=[bx p 180 [ao LJ,.iface 23 (.int .i64 e)],bM D r.1]
 |.ok z=>∃S fa fn fc,v=.tuple #[au S,.agg #[.slice fa fn fc,.int .u64 z.2.top.toNat,.int .i64 z.2.bz,.int .i64 z.2.cD],.nilIface]/\B=[dX (S,D,0) z.1,bM D r.1]
theorem ap3(hl:d.files.length<=50000000000)(pz:∀m,fI d.all d.cap []=.ok m->(d.ml m.steps).1.files.length<=100000000000):
 TR ab GG (if jX=true then 67 else 66) #[au D] [bM D d] (cb (XL D (kY d jX))):=by
 unfold kY
 cases jX
 ·exact SJ D d hl pz
 ·exact S7 D d hl
theorem OO(cK every:Int)(jX:Bool)(hl:d.files.length<=50000000000)(pz:∀m,fI d.all d.cap []=.ok m->(d.ml m.steps).1.files.length<=100000000000)(hl3:(kY d jX).1.files.length<=100000000000):
 TR ab GG 33 #[au D,.agg #[.int .i64 cK,.int .i64 every,.bool jX]] [bM D d] (cb (tm D (gR d cK every jX))):=by
 refine aW U λb β hb hG=>?_
 generalize bu:gR d cK every jX=res
 unfold gR at bu
 refine xP ?_
 intro b3
 refine xA ?_
 intro b5
 refine bw (KX GG D cK every) ?_
 rintro v B (⟨hc,rfl,rfl⟩|⟨hc,W,rfl,rfl⟩)
 ·have hc:¬EI cK every:=hc;rw[if_pos hc]at bu;subst bu;refine xD ?_;refine bw (gh GG LJ 150) ?_;rintro v B (⟨he,rfl,rfl⟩|⟨he,p,rfl,rfl⟩)
  ·cases he
  exact aB7
 have hc:EI cK every:=hc
 rw[if_neg (λh=>h hc)]at bu
 refine xD ?_
 have herr:=@ON d jX
 refine tU [0,3,5,7] [] (ι:={z:Value // XL D (kY d jX) z []\/True}) (λz q_=>(9,.func (.func (if jX=true then 67 else 66)) #[] #[])::q_) (λz q_=>q_) ?fin ?main
 case main=>
  intro KK dW;refine xB ?_ ?_<;>intro hf
  ·have hf:jX=true:=hf;exact aI8
  ·have hf:jX=false:=by omega
   exact aI8
 case fin=>
  intro _;have F0:=ap3 D d jX hl pz;have rH:CF ab (if jX=true then 67 else 66):=by
   cases jX
   ·exact(inferInstance:CF ab 66)
   ·exact(inferInstance:CF ab 67)
  generalize(if jX=true then 67 else 66:Nat)=fn at*;refine xS ?_;refine gW (fst:=[]) (us:=[au D]) (cap:=[]) hG F0 U U U U aN.es ?_;intro v B hS;generalize kY d jX=q at*;obtain⟨d1,r⟩:=q;unfold XL at hS;dsimp only at hS bu herr hl3;cases r with
  |error e=>
   have h0:=herr U;obtain⟨rfl,rfl⟩:=hS;dsimp only at bu;subst bu;refine xD ?_;refine xA ?_;intro wu;refine aM 35 false U Rk (xS ?_);refine aM 39 true U Rk (xS ?_);refine bw (gh GG LJ e) ?_;rintro v B (⟨he,rfl,rfl⟩|⟨he,p,rfl,rfl⟩)
   ·exact absurd he h0
   exact aB7
  |ok z=>
   obtain⟨K,fa,fn,fc,rfl,rfl⟩:=hS;dsimp only at bu;refine xD ?_;refine xA ?_;intro wu;refine xH (OI D d1 hl3) ?_;generalize kj d1=s at*;obtain⟨d2,e⟩:=s;dsimp only at bu ⊢;refine xB ?_ ?_<;>intro h1
   ·have h1:e≠0:=by grind
    rw[if_pos h1]at bu;subst bu;refine xS ?_;refine bw (gh GG LJ e) ?_;rintro v B (⟨he,rfl,rfl⟩|⟨he,p,rfl,rfl⟩)
    ·exact absurd he h1
    exact aB7
   ·have h1:¬e≠0:=by grind
    rw[if_neg h1]at bu;subst bu;refine xS ?_;refine nR [0,1,2,3,4,5,6,7,9] [5,1] ?_;refine xL [0,1,2,3,4,5,6,7,9] ?_;refine xP ?_;intro S;refine fi dX (S,D,0) ⟨cK,every,jX,⟨cK.toNat,every.toNat,0,0,0,0,false⟩,z.dir,z.top,false,false⟩ U (W,K) ?_;exact bO hb (.tmp U (.gX U iA (.tmp U .nil))) ⟨S,fa,fn,fc,U,U⟩
def jY(x:fJ):List Bs->be->List (Bs×Bs)×be
 |[],d=>([],d)
 |k::r,d=>if(x.get d k).2.2.1=true/\(x.get d k).2.2.2=0 then((k,(x.get d k).2.1)::(jY x r (x.get d k).1).1,(jY x r (x.get d k).1).2)else jY x r (x.get d k).1
def fJ.keys(x:fJ):List Bs:=if x.closed=true then[]else x.dir.keys
def fJ.all(x:fJ)(d:be):List (Bs×Bs)×be:=jY x x.keys d
theorem Tp(G:bZ)(S:Nat):TR ab G 47 #[au S] [] (cb λv B=>∃p,v=.func (.func 81) #[] #[au p]/\B=[bx p 32 [au S]]):=Ka
instance:TIf ab 62:=⟨_,Tryz.underlying62⟩
theorem ap4(p S D:Nat)(x:fJ)(d:be)(gE:dI x.dir<=1000000000)(tJ:∀k,LD (x.dir.get k).1.place)(hk:x.keys.length<=1000000000):
 ITS ab GG 81 [au p] [bx p 32 [au S],dX (S,D,0) x,bM D d] [bx p 32 [au S],dX (S,D,0) x,bM D (x.all d).2] (λy:Bs×Bs=>[ao y.1,ao y.2]) (x.all d).1:=by
 refine ITS.mk λl I J hY=>?_
 refine aW U λb β hb hG=>?_
 have sE:x.all d=jY x x.keys d:=U
 generalize x.all d=W at*
 refine xD ?_
 refine bw (xp S D x gE) ?_
 rintro v B ⟨a,c,rfl,rfl⟩
 have hkk:(if x.closed=true then[]else x.dir.keys)=x.keys:=U
 rw[hkk]
 generalize x.keys=ks at*
 dsimp only[ae,ai,ah]
 refine dE a vs1 ks U U (λ_=>rfl) λ_=>xS ?_
 refine eT [0,1,9] [4,3] (ι:={z:Nat×List (Bs×Bs)×be // z.1<=ks.length/\W=(z.2.1++(jY x (ks.drop z.1) z.2.2).1,(jY x (ks.drop z.1) z.2.2).2)}) (λz q_=>(10,aX ks.length)::(11,aX z.1.1)::q_) (λz q_=>I z.1.2.1::bM D z.1.2.2::q_) (λz=>ks.length - z.1.1) ⟨(0,[],d),al _,sE⟩ ?_
 rintro⟨⟨i,pre,d1⟩,hi,hW⟩ ih
 dsimp only at hi hW ih ⊢
 refine xB ?_ ?_<;>intro h
 ·have hi:i<ks.length:=by grind
  rw[aP hi]at hW;unfold jY at hW;refine xS ?_;refine cH U U U U U hi U λbl o=>?_;generalize ks[i]=key at*;refine xS ?_;refine bw (Hl S D x d1 key gE (tJ key)) ?_;generalize x.get d1 key=z at*;obtain⟨d2,val,is,e⟩:=z;dsimp only at hW ⊢;have skip:¬(is=true/\e=0)->W=(pre++(jY x (ks.drop (i+1)) d2).1,(jY x (ks.drop (i+1)) d2).2):=bE;have take:is=true/\e=0->W=((pre++[(key,val)])++(jY x (ks.drop (i+1)) d2).1,(jY x (ks.drop (i+1)) d2).2):=bE;clear hW;rintro v B ⟨u,rfl,B1,(⟨he,rfl,rfl⟩|⟨he,q,rfl,rfl⟩),rfl⟩
  ·refine xD ?_;refine xT 23 ?_ ?_<;>intro h2
   ·have h2:is=true:=h2;have hw:=take ⟨h2,he⟩;have hy:=hY pre (key,val) (jY x (ks.drop (i+1)) d2).1 (by rw[hw];simp);refine xS ?_;refine pg U U U U U (xS ?_);refine rM hG hy U U U U ?_ ?_
    ·refine xD ?_;exact X.W (ih ⟨(i+1,pre++[(key,val)],d2),by omega,hw⟩ bE)
    ·refine xD ?_;exact X.ret hb (.tmps U) ⟨_,.inr ⟨[],U⟩,(show aN _ [J]from ay)⟩
   ·have h2:¬is=true:=by grind
    have hw:=skip (λh=>h2 h.1);exact aC2
  ·have hw:=skip (λh=>he h.2);refine xD ?_;refine xT 23 ?_ ?_<;>intro h2
   ·refine xS ?_;refine pg U U U U U (xS ?_);exact aI5
   ·exact aC2
 ·have fw:i=ks.length:=by grind
  subst fw;rw[bc (ar _)]at hW;have hW:W=(pre++[],d1):=hW;rw[ah]at hW;subst hW;exact aw2
def o7(c:UInt8):Bs:=if 33<=c.toNat/\c.toNat<=126/\c≠37 then[c]else[37,lV (c.toNat / 16),lV (c.toNat%16)]
def iV(s:Bs):Bs:=if s=[]then[45]else if s=[45]then[37,50,100]else s.flatMap o7
theorem Tq(c:UInt8):1<=(o7 c).length/\(o7 c).length<=3:=by grind [o7]
theorem AK:∀(s:Bs),(s.flatMap o7).length<=3*s.length
 |[]=>ar _
 |c::r=>by
  have h1:=Tq c;have h2:=AK r;rw[eQ,aG,ax];omega
theorem kl:(iV s).length<=3*s.length+1:=by
 grind [iV,AK]
def d16:Bs:=[48,49,50,51,52,53,54,55,56,57,97,98,99,100,101,102]
theorem Cz(n:Nat)(h:n<d16.length):d16[n]=lV n:=by
 have:∀n:Fin 16,d16[n.val]'(Nat.lt_of_lt_of_le n.isLt de)=lV n.val:=de;exact this ⟨n,h⟩
theorem Yt(x:UInt8):cC.wrap ((BitVec.ofInt cC.bits (x.toNat:Int)&&&BitVec.ofInt cC.bits 15).toNat:Int)=((x.toNat%16:Nat):Int):=by
 have h:=x.toNat_lt
 have h1:(BitVec.ofInt cC.bits (x.toNat:Int)&&&BitVec.ofInt cC.bits 15).toNat=x.toNat%16:=by
  show(BitVec.ofInt 8 (x.toNat:Int)&&&BitVec.ofInt 8 15).toNat=_;rw[BitVec.toNat_and,BitVec.ofInt_natCast,BitVec.toNat_ofNat,Nat.mod_eq_of_lt h];exact Nat.and_two_pow_sub_one_eq_mod x.toNat 4
 grind [ic,gy]
theorem oy(hs:s.length<=1000000000000):TR ab GG 158 #[ao s] [] (cT (ao (iV s))):=by
 refine cg U λb β hb hG=>?_;have bu:iV s=if s=[]then[45]else if s=[45]then[37,50,100]else s.flatMap o7:=U;generalize iV s=res at*;refine xS ?_;by_cases h1:s=[]
 ·subst h1;rw[if_pos U]at bu;subst bu;refine aM 7 true U iA  ?_;exact xR
 ·rw[if_neg h1]at bu;refine aM 7 false U bE (xS ?_);by_cases h2:s=[45]
  ·subst h2;rw[if_pos U]at bu;subst bu;refine aM 9 true U iA  ?_;exact xR
  ·rw[if_neg h2]at bu;refine aM 9 false U bE (xS ?_);refine jC U U λb3=>?_;refine Uw b3 U (xS ?_);refine MS U U U λa c hac=>xS ?_;refine X.loop (ι:={z:Nat // z<=s.length}) (λz=>([(3,au b3),(12,.slice (some a) s.length c),(13,aX s.length),(14,aX z.1)],[NI b3 ((s.take z.1).flatMap o7),bV RB 1 (some a) s])) (λz=>s.length - z.1)
    ⟨0,al _⟩ (Sub.of U) (show aN _ [NI b3 [],bV RB 1 (some a) s]from ay) ?_
   rintro⟨i,hi⟩ ih;dsimp only at hi ⊢;refine xB ?_ ?_<;>intro h
   ·have hi:i<s.length:=by grind
    have ht:(s.take (i+1)).flatMap o7=(s.take i).flatMap o7++o7 s[i]:=ae1;have pN:=AK (s.take i);rw[cB]at pN;have ih:=ih ⟨i+1,by omega⟩ bE;dsimp only at ih;rw[ht]at ih;refine xS ?_;refine cH U U U U U hi U λbl o=>?_;generalize s[i]=x at*;generalize(s.take i).flatMap o7=acc at*;refine xS ?_;have hx:=x.toNat_lt;by_cases hA:33<=x.toNat
    ·refine aM 20 true U bB (xS ?_);by_cases hB:x.toNat<=126
     ·refine aM 24 true U bB (xS ?_);by_cases hC:x=37
      ·subst hC;have rA:¬(33<=(37:UInt8).toNat/\(37:UInt8).toNat<=126/\(37:UInt8)≠37):=λh=>h.2.2 U;refine aM 27 false U iA ?_;rw[o7,if_neg rA]at ih;refine xE (jf GG b3 acc 37 av) ?_;refine kz (l:=d16) (j:=(37:UInt8).toNat / 16) U U U U (vr .u8 (37:UInt8).toNat 4 de) ap5 ?_;rw[Cz];refine xE (jf GG b3 (acc++[37]) (lV ((37:UInt8).toNat / 16)) bB) ?_;refine kz (l:=d16) (j:=(37:UInt8).toNat%16) U U U U (Yt 37) ap5 ?_;rw[Cz];refine xE (jf GG b3 (acc++[37]++[lV ((37:UInt8).toNat / 16)]) (lV ((37:UInt8).toNat%16)) bB) ?_;rw[show acc++[37]++[lV ((37:UInt8).toNat / 16)]++[lV ((37:UInt8).toNat%16)]=acc++[37,lV ((37:UInt8).toNat / 16),lV ((37:UInt8).toNat%16)]from by simp];exact X.W ih
      ·have M6:((x.toNat:Int)!=37)=true:=by
        rw[bne_iff_ne];intro h;have e1:(37:UInt8).toNat=37:=U;exact hC (aa2.1 av)
       refine aM 27 true U M6 ?_;rw[o7,if_pos ⟨hA,hB,hC⟩]at ih;refine xE (jf GG b3 acc x av) ?_;exact X.W ih
     ·have rA:¬(33<=x.toNat/\x.toNat<=126/\x≠37):=λh=>hB h.2.1;refine aM 24 false U bB ?_;exact bn7
    ·have rA:¬(33<=x.toNat/\x.toNat<=126/\x≠37):=λh=>hA h.1;refine aM 20 false U bB ?_;exact bn7
   ·have hi:i=s.length:=by grind
    subst hi;rw[bh];refine xE (uL GG b3 (s.flatMap o7)) ?_;exact aN0
def gF(e:Int):Bs:=if e=0 then[111,107]else[101,114,114,111,114,32]++gK e
theorem mo(h0: -9223372036854775808<=e)(h1:e<=9223372036854775807):TR ab GG 111 #[.int .i64 e] [] (cT (ao (gF e))):=by
 refine cg U λb β hb hG=>?_;unfold gF;have hl:=dG e h0 h1;refine xS ?_;by_cases h:e=0
 ·subst h;refine aM 4 true U iA  ?_;exact xR
 ·rw[if_neg h];refine aM 4 false U bE  ?_;refine xJ (vz e h0 h1) ?_;exact xR
instance:NH ab 147:=⟨by kernel_rfl⟩
theorem tq(c:Bs)(e:Int)(v:Value)(A:List az)(h:a14 c e v A)(h0: -9223372036854775808<=e)(h1:e<=9223372036854775807):TR ab GG 100 #[v] A (cT (ao (gF e))):=by
 refine cg U λb β hb hG=>?_;rcases h with⟨rfl,rfl,rfl⟩|⟨he,p,rfl,rfl⟩
 ·refine xS ?_;refine pg U U U U U  ?_;exact xR
 ·refine xS ?_;refine pg U U U U U  ?_;refine xA ?_;intro b3;refine qQ U U U (xS ?_);refine bw (WO p b3 c e 0) ?_;rintro _ _ ⟨rfl,rfl⟩;refine xD ?_;refine xJ (mo e h0 h1) ?_;exact xR
end
end Go.Proofs
namespace Go.Proofs
open Go.Sl
open Go.RowKit Go.Sort
set_option maxRecDepth 8000
section
variable(u:UInt64)
theorem OP(i:Nat)(hi:i<100):TR ab GG 251 #[.int .i64 i] [] (cT (ao (gT i))):=by
 refine TR.below U λw=>?_
 refine(Any.internal_strconv_small {rk with} i hi w).mono ?_
 grind [Below.refl]
theorem Tr(u:Nat)(h1:1<=u)(h2:u<18446744073709551616):TR ab GG 252 #[.int .u64 u] [] (cT (.int .i64 (fQ u))):=by
 intro β w hG hs;obtain⟨t,f,hp⟩:=hG.1.aX6;refine(Any.internal_strconv_numDigits {rk with} u h1 h2 w (Dy hs cA hp)).mono ?_;rintro e w' ⟨rfl,rfl⟩;exact⟨[],⟨U,U⟩,hs⟩
theorem bp1(u:Nat)(hu:u<18446744073709551616):fQ u<=20:=by
 by_cases h:u=0
 ·grind [Lib.nDigits_small]
 ·have:=Lib.numDigits_eq u av hu;split at this<;>omega
theorem ap6(G:bZ)(e0 g c u:Nat)(h2:u<18446744073709551616)(xs:List Value)(hx:xs=bI (fQ u) (.int .u8 0)):TR ab G 253 #[.slice (some ⟨g,0,none⟩) (fQ u) c,.int .u64 u] [own e0 1 (some ⟨g,0,none⟩) (fQ u) c xs] (cb λv B=>v=.tuple #[]/\B=[own e0 1 (some ⟨g,0,none⟩) (fQ u) c ((gT u).map fO)]):=by
 intro β w _ hs;subst hx;rcases dx hs with⟨h,_⟩|⟨g',cur,h,h3,h6,h7,h8,h9,ug⟩
 ·cases h
 ·cases h;have hb:=dS ug;rw[Nat.mul_one]at h9;have Bh:∀j,j<fQ u->cur[j]?=some (.int .u8 0):=λj hj=>by
   have:(cur.toList.take (fQ u))[j]?=some (.int .u8 0):=bE
   grind
  have hH:Holds (fun(b:UInt8)=>eL .u8 (b.toNat:Int)) w g 0 (Array.replicate (fQ u) (0:UInt8)):=λj hj=>by
   have hj':j<fQ u:=bE;refine⟨?_,by grind [World.frozen?]⟩;rw[getElem!_pos _ j hj];simp[gj,hb,Bh j hj']
  have hf:=Any.internal_strconv_formatBase10 HA g 0 c u (Array.replicate (fQ u) 0) w hH (by rw[Array.size_replicate];exact Lib.lt_pow_nDigits u) h2 (by rw[Array.size_replicate];have:=bp1 u h2;omega);rw[Array.size_replicate]at hf;refine hf.mono ?_;rintro e w' ⟨rfl,n,v',dk,rfl,hF⟩;refine⟨_,⟨U,U⟩,fK (cur:=putCells (fun(b:UInt8)=>eL .u8 (b.toNat:Int)) 0 dk cur) ?_ ?_ h6 h7 (by grind [putCells]) ?_⟩
  ·refine zM ug (b':=g) ⟨U,U,U,by simp_all,λk hk me=>?_⟩ (aT _ _) ?_ (.inl U);all_goals grind [putRow,mapBlock,World.drewN,onCells]
  ·simp[Lib.decDigits_length]
  ·have xz:=hF.size
   apply dP
   grind [Lib.row_is_numeral,Lib.decDigits_length,putCells,fO]
instance:Ug ab 389 24 5:=⟨Tryz.underlying389⟩
theorem Ts:TR ab GG 159 #[.int .u64 u.toNat,.int .i64 10] [] (cT (ao (gT u.toNat))):=by
 have hu:=u.toNat_lt;generalize u.toNat=u at*;refine aW U λb β hb hG=>?_;refine xB ?_ ?_<;>intro h
 ·have h:u<100:=by grind
  refine xS ?_;rw[show dV.wrap (u:Int)=u from by grind [wrap_i64]];refine xJ (OP u h) ?_;exact xR
 ·have h:100<=u:=by grind
  have h20:=bp1 u hu;refine xA ?_;intro b5;refine xJ (Tr u av hu) ?_;refine UU (l:=0) (h:=fQ u) U U U Bd.no (Bd.at U U) av av av ?_;refine Ut b5 1 24 U U ?_;refine CG (a:=some ⟨b5,0,none⟩) (fQ u) av (xS ?_);refine bw (ap6 GG 389 b5 24 u hu _ ?_) ?_
  ·rw[Nat.mul_one];exact(List.take_replicate (n:=24) (i:=fQ u) (a:=eL .u8 0)).trans bE
  rintro _ _ ⟨rfl,rfl⟩;refine xD ?_;refine UU (l:=0) (h:=fQ u) U U U Bd.no (Bd.at U U) av av av (xS ?_);refine xV U U U U  ?_;exact xR
theorem zq:TR ab GG 109 #[.int .u64 u.toNat,.int .i64 10] [] (cT (ao (gT u.toNat))):=by
 refine aW U λb β hb hG=>?_;refine xJ (Ts u) ?_;exact xR
end
end Go.Proofs
namespace Go.Proofs
open Go.Sl
set_option maxRecDepth 8000
section
variable{cc:Option (Array Oper×List Oper)}{R:Ending->List az->Prop}{Hs:List az}{P:Program}{b:Frame}{E:Env}{β:bS}{k:Kt}{y:Bs}(w:Bs)(i:Nat)(c:UInt8)(r:Bs)(G:bZ)(bl:Nat)(s:Bs)(x:UInt8)
theorem LK:∀(j:Nat) (l:List Value) (v:Value),j<l.length->Fz j l [v]=some (l.set j v)
 |0,x::r,v,_=>by cases r<;>rfl
 |j+1,x::r,v,h=>by
  show(match Fz j r [v]with|some m=>some (x::m)|none=>none)=_;rw[LK j r v BU];rfl
 |_,[],_,h=>by simp at h
instance:Ug ab 382 256 4:=⟨Tryz.underlying382⟩
instance:TZ ab 382 (bI 256 (.bool false)):=⟨by kernel_rfl⟩
theorem Yv:∀(l m:List Value),l.length=m.length->ov l m=some m
 |[],[],_=>rfl
 |x::l,y::m,h=>by
  show(match ov l m with|some q=>some (y::q)|none=>none)=_;rw[Yv l m BU]
def Fp(c:UInt8):Bool:=decide (48<=c.toNat)&&decide (c.toNat<=57)
def d10:Bs:=[48,49,50,51,52,53,54,55,56,57]
theorem a19:∀(i:Nat) (h:i<d10.length),d10[i].toNat=48+i:=by
 have:∀i:Fin 10,(d10[i.val]'i.isLt).toNat=48+i.val:=de;exact λi h=>this ⟨i,h⟩
def sf(i:Nat):List Value:=(List.range 256).map λc=>.bool (decide (48<=c)&&decide (c<48+i))
theorem LL:(sf i).length=256:=by simp[sf]
theorem Yw(h:i<10):(sf i).set (48+i) (.bool true)=sf (i+1):=by
 apply List.ext_getElem
 ·simp[sf]
 ·intro j h1 h2
  rw[List.getElem_set]
  simp only[sf,ft,List.getElem_range]
  split
  ·subst_vars;simp
  ·congr 2
   grind
theorem Tt:TR ab G 243 #[ao d10] [] (cT (.tuple #[.agg (sf 10).toArray,.bool true])):=by
 refine cg U λb β hb hG=>xS ?_;refine jC U U λb2=>?_;refine X.cd (Hs':=[bx b2 382 (sf 0)]) (jk (by rw[show sf 0=bI 256 (.bool false)from by kernel_rfl])) (xS ?_);refine eT [0,2] [0] (ι:={i:Nat // i<=10}) (λi q_=>(4,aX i.1)::q_) (λi q_=>bx b2 382 (sf i.1)::q_) (λi=>10 - i.1) ⟨0,al _⟩ ?_;rintro⟨i,hi⟩ ih;dsimp only;refine xS ?_;rw[show d10.length=10 from rfl];refine xB ?_ ?_<;>intro h
 ·have hi:i<10:=by grind
  have hd:=a19 i hi;refine xS ?_;refine kz (l:=d10) (j:=i) U U U U U hi ?_;generalize d10[i]'hi=x at*;refine xB ?_ ?_<;>intro h2
  ·simp at h2;omega
  ·refine xS ?_
   refine yb (j:=x.toNat) U U U U nH av (xS ?_)
   refine X.st (JA:=sf (i+1)) U U U U U U ?_ ?_
   ·grind [Yw,LK,LL]
   refine xS ?_
   refine X.W (ih ⟨i+1,by omega⟩ bE)
 ·have hi:i=10:=by grind
  subst hi;refine xS ?_;refine bO hb (.gX U iA (.tmp U .nil)) ⟨?_,U⟩;kernel_rfl
theorem ap7:(sf 10)[x.toNat]?=some (.bool (Fp x)):=by
 have h:=x.toNat_lt
 grind [sf,Fp]
theorem Hm:TR ab G 347 #[au bl,fO x] [bx bl 382 (sf 10)] (cb λv B=>v=.bool (Fp x)/\B=[bx bl 382 (sf 10)]):=by
 refine aW U λb β hb hG=>?_;have h:=x.toNat_lt;refine xS ?_;refine yb (j:=x.toNat) U U U U U av ?_;refine be5 U U U (v:=.bool (Fp x)) (by grind [ap7]) (xS ?_);exact az5
def BI(s:Bs):Bs:=s.dropWhile Fp
def o8(s:Bs):Bs:=(s.reverse.dropWhile Fp).reverse
theorem OQ:o8 (s++[x])=if Fp x then o8 s else s++[x]:=by
 grind [o8,List.dropWhile_cons]
theorem Tu(hs:s.length<=1000000000):TR ab G 245 #[ao s,au bl] [bx bl 382 (sf 10)] (cb λv B=>v=ao (o8 s)/\B=[bx bl 382 (sf 10)]):=by
 refine aW U λb β hb hG=>xS ?_;refine eT [1] [] (ι:={q:Bs // o8 q=o8 s/\q.length<=1000000000}) (λq q_=>(0,ao q.1)::q_) (λq q_=>q_) (λq=>q.1.length) ⟨s,U,hs⟩ ?_;rintro⟨q,hq,U'⟩ ih;dsimp only at U' ⊢;rcases List.eq_nil_or_concat q with rfl|⟨r,x,Yx⟩
 ·exact PS
 ·rw[List.concat_eq_append]at Yx;have hl:q.length=r.length+1:=bE;have h9:q[r.length]' av=x:=ZJ;have h8:q.take r.length=r:=ZJ;refine xB ?_ ?_<;>intro h0
  ·refine xS ?_;refine kz (l:=q) (j:=r.length) U U U U av av ?_;rw[h9];refine bw (Hm G bl x) ?_;rintro _ _ ⟨rfl,rfl⟩;dsimp only[ae,ai,ah];rw[Yx,OQ,<-Yx]at hq;cases hx:Fp x with
   |true=>
    rw[if_pos hx]at hq;refine xS ?_;refine mM (l:=0) (h:=r.length) U U U Bd.no (Bd.at U av) av av ?_;rw[show(q.drop 0).take (r.length - 0)=r from by grind];refine xS ?_;exact X.W (ih ⟨r,hq,by omega⟩ bE)
   |false=>
    exact bF0
  ·have:=of_decide_eq_false h0;omega
theorem Tv(hs:s.length<=1000000000):TR ab G 244 #[ao s,au bl] [bx bl 382 (sf 10)] (cb λv B=>v=ao (BI s)/\B=[bx bl 382 (sf 10)]):=by
 refine aW U λb β hb hG=>xS ?_;refine eT [1] [] (ι:={q:Bs // BI q=BI s}) (λq q_=>(0,ao q.1)::q_) (λq q_=>q_) (λq=>q.1.length) ⟨s,U⟩ ?_;rintro⟨q,hq⟩ ih;dsimp only;rcases List.eq_nil_or_concat q.reverse with h|⟨r,x,Yx⟩
 ·have:q=[]:=by simp_all
  subst this;exact PS
 ·have Yx:q=x::r.reverse:=by grind
  have hl:q.length=r.length+1:=bE;have h9:q[0]' av=x:=ZJ;have h8:q.drop 1=r.reverse:=ZJ;refine xB ?_ ?_<;>intro h0
  ·refine xS ?_;refine kz (l:=q) (j:=0) U U U U U av ?_;rw[h9];refine bw (Hm G bl x) ?_;rintro _ _ ⟨rfl,rfl⟩;dsimp only[ae,ai,ah];rw[Yx,BI,List.dropWhile_cons,<-Yx]at hq;cases hx:Fp x with
   |true=>
    rw[if_pos hx]at hq;refine xS ?_;refine mM (l:=1) (h:=q.length) U U U (Bd.at U U) Bd.no av av ?_;rw[show(q.drop 1).take (q.length - 1)=r.reverse from by grind];refine xS ?_;exact X.W (ih ⟨r.reverse,hq⟩ bE)
   |false=>
    exact bF0
  ·have:=of_decide_eq_false h0;omega
theorem Yy(hs:s.length<=1000000000):TR ab G 154 #[ao s,ao d10] [] (cT (ao (BI (o8 s)))):=by
 refine aW U λb β hb hG=>?_;by_cases h0:s=[]
 ·subst h0;exact xR
 ·refine xT 9 ?_ ?_<;>intro h
  ·simp at h;exact absurd h h0
  refine xJ (Tt G) ?_
  generalize hT:sf 10=T
  have hTl:T.length=256:=by grind [LL]
  refine xA ?_
  intro b5
  refine X.st (l:=T) (JA:=T) U U U U hTl (by rw[<-hT];kernel_rfl) ?_ ?_
  ·exact Yv _ _ bE
  subst hT
  refine xS ?_
  refine bw (Tu G b5 s hs) ?_
  rintro _ _ ⟨rfl,rfl⟩
  refine xD ?_
  refine bw (Tv G b5 (o8 s) ?_) ?_
  ·grind [o8,List.dropWhile_sublist]
  exact Xe
theorem LM:BI (o8 s)=[]↔∀x∈s,Fp x=true:=by
 have e1:∀l:Bs,l.dropWhile Fp=[]↔∀x∈l,Fp x=true:=by
  intro l;induction l with
  |nil=>simp
  |cons x r ih=>grind [List.dropWhile_cons]
 constructor
 ·intro h;by_cases h2:o8 s=[]
  ·have:s.reverse.dropWhile Fp=[]:=by simpa[o8]using h2
   grind
  ·exfalso
   rw[BI,e1]at h
   obtain⟨r,x,hq⟩:=(List.eq_nil_or_concat (o8 s)).resolve_left h2
   have hx:=h x (by rw[hq];simp)
   have h3:(s.reverse.dropWhile Fp)=x::r.reverse:=by
    grind [o8]
   have e2:∀(l:Bs) (q:Bs),l.dropWhile Fp=x::q->Fp x=false:=by
    intro l;induction l<;>grind [List.dropWhile_cons]
   grind
 ·intro h;have h2:o8 s=[]:=by
   grind [o8]
  rw[h2];rfl
def Tw:Unit->Value:=λ_=>.iface 111 (.agg #[])
instance:NH ab 111:=⟨by kernel_rfl⟩
theorem jy(p:Bool):TR ab G 54 #[.bool p] [] (MR Tw (if p then .ok ()else .error ():Except Unit Unit) (λ_ v B=>v=.tuple #[]/\B=[])):=by
 refine cg U λb β hb hG=>?_;cases p with
 |true=>
  refine xS ?_;exact X.fin hb (.tmps U) ⟨_,⟨(),U,U,U⟩,aN.refl _⟩
 |false=>
  refine xS ?_;refine qQ U U U (xS ?_);exact Uo hb U U (λ_=>rfl) ⟨(),U,U,U⟩
def tr(w:Bs):Bool:=decide (1<=w.length)&&decide (w.length<=9)&&w.all Fp&&(decide (w.headD 0≠48)||decide (w=[48]))
def rE(w:Bs):Nat:=((Lib.atoi w).getD 0).toNat
theorem IV:∀(l:Bs) (acc:Nat),(∀x∈l,Fp x=true)->∃n,Lib.decFrom acc l=some n
 |[],acc,_=>⟨acc,U⟩
 |x::r,acc,h=>by
  have hx:=h x nH;have:Lib.digitVal x=some (x.toNat - 48):=by
   grind [Lib.digitVal,Fp]
  rw[Lib.decFrom,this];exact IV r _ (λy hy=>h y U8)
theorem IW(h:tr w=true):Lib.atoi w=some (rE w:Int):=by
 simp only[tr,Bool.and_eq_true,decide_eq_true_eq,ef]at h;obtain⟨⟨⟨h1,_⟩,h2⟩,_⟩:=h;unfold rE;cases w with
 |nil=>simp at h1
 |cons x r=>
  have hx:=h2 x nH;obtain⟨n,hn⟩:=IV (x::r) 0 h2;have e:Lib.atoi (x::r)=some (n:Int):=by
   have h45:(x==45)=false:=Xd
   have h43:(x==43)=false:=Xd
   grind [Lib.atoi,Lib.decNat]
  rw[e];simp
theorem Qs(hs:w.length<=1000000000):TR ab GG 93 #[ao w] [] (MR Tw (if tr w then .ok (rE w)else .error ():Except Unit Nat) (λn v B=>v=aX n/\B=[])):=by
 refine cg U λb β hb hG=>xS ?_;by_cases h0:w=[]
 ·subst h0;have rA:tr []=false:=iA;exact bC4
 ·have h0':1<=w.length:=by grind
  refine aM 8 true U bB (xS ?_);by_cases h1:w.length<=9
  ·refine aM 13 true U bB (xS ?_);refine mM (l:=0) (h:=10) U U U Bd.no (Bd.at U U) de de  ?_;refine xJ (Yy GG w hs) ?_;by_cases h2:∀x∈w,Fp x=true
   ·have h2':=(LM w).2 h2;refine aM 19 true U (by rw[h2'];rfl) (xS ?_);refine kz (l:=w) (j:=0) U U U U U av ?_;have hhd:w.headD 0=w[0]' av:=FY;have sE:w.all Fp=true:=bE;generalize w[0]' av=x at*;refine xS ?_;by_cases h3:x=48
    ·subst h3;refine aM 23 false U iA (xS ?_);by_cases h4:w=[48]
     ·subst h4;have dp:tr [48]=true:=de;refine xS ?_;refine dU hG hb (jy GG true) U U U (aN.refl _) (λe he=>by cases he) ?_;rintro _ _ _ _ ⟨rfl,rfl⟩;refine xD ?_;refine xJ (P4 [48] (rE [48]) av (IW [48] dp)) ?_;exact bO hb (.tmps U) ⟨rE [48],by rw[dp];rfl,U,U⟩
     ·refine aM 27 false U bE ?_;exact QJ
    ·have M6:((x.toNat:Int)!=48)=true:=bF1;refine aM 23 true U M6 ?_;have dp:tr w=true:=by grind [tr]
     refine xS ?_;refine dU hG hb (jy GG true) U U U (aN.refl _) (λe he=>by cases he) ?_;rintro _ _ _ _ ⟨rfl,rfl⟩;refine xD ?_;refine xJ (P4 w (rE w) av (IW w dp)) ?_;exact bO hb (.tmps U) ⟨rE w,by rw[dp];rfl,U,U⟩
   ·have h2':¬BI (o8 w)=[]:=by grind [LM]
    refine aM 19 false U bE ?_;have rA:tr w=false:=by
     grind [tr]
    exact bC4
  ·refine aM 13 false U bB ?_;exact QJ
def h16:Bs:=[48,49,50,51,52,53,54,55,56,57,97,98,99,100,101,102]
def vd(c:UInt8):Int:=cE h16 c
theorem Yz(c:UInt8):∀(l:Bs),-1<=cE l c/\cE l c<l.length
 |[]=>by grind [cE]
 |x::r=>by
  have ih:=Yz c r
  grind [cE]
theorem vQ: -1<=vd c/\vd c<16:=Yz c h16
def zr:Bs->Except Unit Nat
 |[a,b]=>if 0<=vd a/\0<=vd b then .ok (16*(vd a).toNat+(vd b).toNat)else .error ()
 |_=>.error ()
theorem ap8(h:w.length≠2):zr w=.error ():=by
 match w,h with
 |[],_=>rfl
 |[_],_=>rfl
 |[_,_],h=>simp at h
 |_::_::_::_,_=>rfl
theorem IX:TR ab GG 94 #[ao w] [] (MR Tw (zr w) (λn v B=>v=aX n/\B=[])):=by
 refine cg U λb β hb hG=>?_;by_cases h:w.length=2
 ·obtain⟨x,y,rfl⟩:∃x y,w=[x,y]:=by
   match w,h with
   |[x,y],_=>grind
  have hx:=vQ x;have hy:=vQ y;refine xS ?_;refine dU hG hb (jy GG true) U U U (aN.refl _) (λe he=>by cases he) ?_;rintro _ _ _ _ ⟨rfl,rfl⟩;refine xD ?_;refine nR [0,1,3,4] [] ?_;apply cW [0,1,3,4] U U U
  ·intro p hp;refine xS ?_;refine kz (l:=[x,y]) (j:=0) U U U U U nH (xS ?_);refine kz (l:=[x,y]) (j:=1) U U U U U nH ?_;exact hp
  ·rfl
  ·rfl
  refine xJ (wz GG h16 x) ?_;refine xJ (wz GG h16 y) ?_;change X _ _ _ _ _ ⟨_,(17,.bool (decide (vd x≥0)))::(16,.bool (decide (vd x≥0)))::(15,.int .i64 (vd x))::(4,.int .i64 (vd y))::(3,.int .i64 (vd x))::_,_⟩ _ _;by_cases h1:0<=vd x
  ·by_cases h2:0<=vd y
   ·have e:zr [x,y]=.ok (16*(vd x).toNat+(vd y).toNat):=if_pos ⟨h1,h2⟩
    refine aM 17 true U (decide_eq_true h1) (xS ?_)
    rw[show decide (vd y≥0)=true from decide_eq_true h2]
    refine xS ?_
    refine dU hG hb (jy GG true) U U U (aN.refl _) (λe he=>by cases he) ?_
    rintro _ _ _ _ ⟨rfl,rfl⟩
    refine xD ?_
    refine bO hb (.tmps U) ⟨_,e,?_,U⟩
    grind [lx,aX]
   ·have e:zr [x,y]=.error ():=if_neg (λh=>h2 h.2);refine aM 17 true U (decide_eq_true h1) (xS ?_);rw[show decide (vd y≥0)=false from decide_eq_false h2];refine xS ?_;exact aj3
  ·have e:zr [x,y]=.error ():=if_neg (λh=>h1 h.1);refine aM 17 false U (decide_eq_false h1) (xS ?_);exact aj3
 ·rw[ap8 w h];refine xS ?_;have e:((w.length:Int)==2)=false:=bE;rw[e];exact dU hG hb (jy GG false) U U U (aN.refl _) (λ_ he=>⟨(),U,U,U⟩) (λx hx=>by cases hx)
theorem ap9{w:Bs}{n:Nat}(h:zr w=.ok n):n<256:=by
 unfold zr at h;split at h
 ·split at h
  ·rename_i a b h1
   have:=vQ a
   have:=vQ b
   grind
  ·cases h
 ·cases h
def sg:Nat->Bs->Except Unit Bs
 |0,_=>.error ()
 |_+1,[]=>.ok []
 |f+1,c::r=>if c≠37 then(match sg f r with|.ok q=>.ok (c::q)|.error e=>.error e)
  else if 3<=(c::r).length then(match zr (r.take 2)with
   |.ok n=>(match sg f (r.drop 2)with|.ok q=>.ok (cu n::q)|.error e=>.error e)
   |.error e=>.error e)
  else .error ()
def wC(w:Bs):Except Unit Bs:=if w=[45]then .ok []else sg (w.length+1) w
theorem xq:∀(f g:Nat) (w:Bs),w.length<f->w.length<g->sg f w=sg g w
 |f+1,g+1,[],_,_=>rfl
 |f+1,g+1,c::r,h1,h2=>by
  simp only[ax]at h1 h2;rw[sg,sg,xq f g r av av,xq f g (r.drop 2) bB bB]
 |0,_,_,h,_=>by omega
 |_,0,_,_,h=>by omega
def si(w:Bs):Except Unit Bs:=sg (w.length+1) w
theorem Tx:si []=.ok []:=rfl
theorem YA(h:c≠37):si (c::r)=(match si r with|.ok q=>.ok (c::q)|.error e=>.error e):=by
 grind [si,sg]
theorem YB(h:2<=r.length):si (37::r)=(match zr (r.take 2)with
 |.ok n=>(match si (r.drop 2)with|.ok q=>.ok (cu n::q)|.error e=>.error e)
 |.error e=>.error e):=by
 grind [si,sg,xq]
theorem YC(h:¬2<=r.length):si (37::r)=.error ():=by
 grind [si,sg]
def zt{α β:Type}(f:α->β):Except Unit α->Except Unit β
 |.ok x=>.ok (f x)
 |.error e=>.error e
theorem ve(hs:w.length<=1000000000):TR ab GG 95 #[ao w] [] (MR Tw (wC w) (λq v B=>v=ao q/\B=[])):=by
 refine cg U λb β hb hG=>?_;by_cases h45:w=[45]
 ·subst h45;refine xS ?_;exact bO hb (.tmps U) ⟨[],U,U,U⟩
 rw[show wC w=si w from if_neg h45];refine xS ?_;rw[show(w==[45])=false from by grind];refine xS ?_;refine jC U U λb3=>?_;refine Uw b3 U (xS ?_);refine eT [3] [0] (ι:={p:Bs×Bs // si w=zt (p.2++·) (si p.1)/\p.1.length+p.2.length<=w.length}) (λp q_=>(0,ao p.1.1)::q_) (λp q_=>NI b3 p.1.2::q_) (λp=>p.1.1.length) ⟨(w,[]),by dsimp only;cases si w<;>rfl,by simp⟩ ?_;rintro⟨⟨q,l⟩,hq,hl⟩ ih;dsimp only at hq hl ⊢;by_cases h0:q=[]
 ·subst h0;rw[Tx,zt,ah]at hq;refine xS ?_;refine bw (uL GG b3 l) ?_;rintro _ _ ⟨rfl,rfl⟩;refine xD ?_;exact bO hb (.tmps U) ⟨l,hq,U,U⟩
 ·have zW:1<=q.length:=by grind
  refine xS ?_;rw[show(!q==[])=true from by grind];refine xS ?_;refine kz (l:=q) (j:=0) U U U U U zW ?_;obtain⟨c,r,Yx⟩:∃c r,q=c::r:=by cases q with|nil=>grind|cons c r=>grind
  have Ms:q[0]'zW=c:=ZJ;have Z6:q.length=r.length+1:=ZJ;have Z9:q.drop 1=r:=ZJ;rw[Ms];by_cases hc:c=37
  ·subst hc;rw[Yx]at hq;refine xS ?_;by_cases h3:2<=r.length
   ·rw[YB r h3]at hq
    rw[show decide ((q.length:Int)≥3)=true from decide_eq_true av]
    refine dU hG hb (jy GG true) U U U (aN.refl _) (λe he=>by cases he) ?_
    rintro _ _ _ _ ⟨rfl,rfl⟩
    refine xD ?_
    refine mM (l:=1) (h:=3) U U U (Bd.at U U) (Bd.at U U) av av ?_
    rw[show(q.drop 1).take (3 - 1)=r.take 2 from by rw[Z9]]
    refine xS ?_
    refine dU hG hb (IX (r.take 2)) U U U (aN.refl _) (λe he=>⟨(),by rw[hq,he];rfl,U,U⟩) ?_
    rintro n hn _ _ ⟨rfl,rfl⟩
    have tH:=ap9 hn
    rw[hn]at hq
    refine xD ?_
    rw[show eL .u8 (cC.wrap (n:Int))=fO (cu n)from by rw[qm];rfl]
    refine bw (jf GG b3 l (cu n) av) ?_
    rintro _ _ ⟨rfl,rfl⟩
    refine xD ?_
    refine mM (l:=3) (h:=q.length) U U U (Bd.at U U) Bd.no av (ar _) ?_
    rw[show(q.drop 3).take (q.length - 3)=r.drop 2 from by grind [aD]]
    refine xS ?_
    refine X.W (ih ⟨(r.drop 2,l++[cu n]),?_,by simp;omega⟩ (by dsimp only;simp;omega))
    grind [zt]
   ·rw[YC r h3]at hq;rw[show decide ((q.length:Int)≥3)=false from decide_eq_false av];exact dU hG hb (jy GG false) U U U (aN.refl _) (λ_ he=>⟨(),hq,U,U⟩) (λx hx=>by cases hx)
  ·have hc':((c.toNat:Int)!=37)=true:=by
    rw[bne_iff_ne];intro h;exact ax2
   rw[Yx,YA c r hc]at hq
   refine xS ?_
   rw[hc']
   refine xS ?_
   refine kz (l:=q) (j:=0) U U U U U zW ?_
   rw[Ms]
   refine bw (jf GG b3 l c av) ?_
   rintro _ _ ⟨rfl,rfl⟩
   refine xD ?_
   refine mM (l:=1) (h:=q.length) U U U (Bd.at U U) Bd.no zW (ar _) ?_
   rw[show(q.drop 1).take (q.length - 1)=r from by grind]
   refine xS ?_
   refine X.W (ih ⟨(r,l++[c]),?_,by simp;omega⟩ gm)
   grind [zt]
section
set_option maxRecDepth 20000
structure Sh where
 name:Bs
 ib:List Bs
 f1:Option Nat
 f2:Option Nat
def fv:Option Nat->Value
 |none=>.nilFunc
 |some f=>.func (.func f) #[] #[]
def Ty:List Sh:=[⟨[100,105,115,107],[[110]],some 97,none⟩,⟨[111,112,101,110],[[100,101,101,112,124,102,97,115,116],[110],[110]],some 98,none⟩,⟨[112,117,116],[[116],[116]],none,some 99⟩,⟨[100,101,108],[[84]],none,some 101⟩,⟨[103,101,116],[[116]],none,some 102⟩,⟨[115,121,110,99],[],none,some 103⟩,⟨[109,101,114,103,101],[],none,some 104⟩,⟨[99,108,111,115,101],[],none,some 105⟩,⟨[107,101,121,115],[],none,some 106⟩,⟨[97,108,108],[],none,some 107⟩,⟨[108,97,115,116],[],none,some 108⟩,⟨[102,97,105,108],[[110]],some 110,none⟩,⟨[98,114,101,97,107],[[110],[98,101,102,111,114,101,124,98,101,104,105,110,100]],some 112,none⟩,⟨[99,114,97,115,104],[[110]],some 113,none⟩,⟨[108,97,121],[[116],[116]],some 114,none⟩,⟨[102,108,105,112],[[116],[110],[120]],some 114,none⟩,⟨[99,117,116],[[116],[110]],some 114,none⟩,⟨[108,111,115,101],[[116]],some 114,none⟩,⟨[99,111,112,121],[[116],[116]],some 114,none⟩,⟨[109,111,118,101],[[116],[116]],some 114,none⟩,⟨[102,105,108,101,115],[],some 115,none⟩,⟨[114,101,97,100],[[116]],some 116,none⟩,⟨[117,115,101,100],[],some 117,none⟩]
def Sh.val(s:Sh)(a:Option Addr):Value:=.agg #[.slice a s.ib.length s.ib.length,fv s.f1,fv s.f2]
def shM(qs:List (Option Addr)):List (Bs×Value):=List.zipWith (λs a=>(s.name,s.val a)) Ty qs
def shB(qs:List (Option Addr)):List az:=List.zipWith (λs a=>bV RS 1 a s.ib) Ty qs
theorem bb8{K:Type}{bo:K->Value}{M M':List (K×Value)}{F:List az}[hf:FM Hs bl bo M F](h:M=M')(hx:X P b β cc k E (mp bo bl M'::F) R):X P b β cc k E Hs R:=by
 subst h;exact X.cd hf.out hx
set_option synthInstance.maxSize 200000 in
set_option synthInstance.maxHeartbeats 4000000 in
theorem Tz:TR ab G 60 #[] [] (cb λv B=>∃m qs,qs.length=Ty.length/\v=.map (some m)/\B=mp ao m (shM qs)::shB qs):=by
 refine Py λb β hb hG=>xS ?_;refine qR ao U U λm=>xS ?_;refine lB U U iA iA iA iA iA iA λb0=>?_;refine iu b0 (λk:Bs=>[ao k]) [[110]] U (λ_=>rfl) (xS ?_);refine lz ([100,105,115,107]:Bs) bW U U U U (xS ?_);refine lB U U iA iA iA iA iA iA λb1=>?_;refine iu b1 (λk:Bs=>[ao k]) [[100,101,101,112,124,102,97,115,116],[110],[110]] U (λ_=>rfl) (xS ?_);refine lz ([111,112,101,110]:Bs) bW U U U U (xS ?_);refine lB U U iA iA iA iA iA iA λb2=>?_;refine iu b2 (λk:Bs=>[ao k]) [[116],[116]] U (λ_=>rfl) (xS ?_);refine lz ([112,117,116]:Bs) bW U U U U (xS ?_);refine lB U U iA iA iA iA iA iA λb3=>?_;refine iu b3 (λk:Bs=>[ao k]) [[84]] U (λ_=>rfl) (xS ?_);refine lz ([100,101,108]:Bs) bW U U U U (xS ?_);refine lB U U iA iA iA iA iA iA λb4=>?_;refine iu b4 (λk:Bs=>[ao k]) [[116]] U (λ_=>rfl) (xS ?_);refine lz ([103,101,116]:Bs) bW U U U U (xS ?_);refine lz ([115,121,110,99]:Bs) bW U U U U (xS ?_);refine lz ([109,101,114,103,101]:Bs) bW U U U U (xS ?_);refine lz ([99,108,111,115,101]:Bs) bW U U U U (xS ?_);refine lz ([107,101,121,115]:Bs) bW U U U U (xS ?_);refine lz ([97,108,108]:Bs) bW U U U U (xS ?_);refine lz ([108,97,115,116]:Bs) bW U U U U (xS ?_);refine lB U U iA iA iA iA iA iA λwu=>?_;refine iu wu (λk:Bs=>[ao k]) [[110]] U (λ_=>rfl) (xS ?_);refine lz ([102,97,105,108]:Bs) bW U U U U (xS ?_);refine lB U U iA iA iA iA iA iA λBl=>?_;refine iu Bl (λk:Bs=>[ao k]) [[110],[98,101,102,111,114,101,124,98,101,104,105,110,100]] U (λ_=>rfl) (xS ?_);refine lz ([98,114,101,97,107]:Bs) bW U U U U (xS ?_);refine lB U U iA iA iA iA iA iA λFE=>?_;refine iu FE (λk:Bs=>[ao k]) [[110]] U (λ_=>rfl) (xS ?_);refine lz ([99,114,97,115,104]:Bs) bW U U U U (xS ?_);refine lB U U iA iA iA iA iA iA λK7=>?_;refine iu K7 (λk:Bs=>[ao k]) [[116],[116]] U (λ_=>rfl) (xS ?_);refine lz ([108,97,121]:Bs) bW U U U U (xS ?_);refine lB U U iA iA iA iA iA iA λb15=>?_;refine iu b15 (λk:Bs=>[ao k]) [[116],[110],[120]] U (λ_=>rfl) (xS ?_);refine lz ([102,108,105,112]:Bs) bW U U U U (xS ?_);refine lB U U iA iA iA iA iA iA λb16=>?_;refine iu b16 (λk:Bs=>[ao k]) [[116],[110]] U (λ_=>rfl) (xS ?_);refine lz ([99,117,116]:Bs) bW U U U U (xS ?_);refine lB U U iA iA iA iA iA iA λb17=>?_;refine iu b17 (λk:Bs=>[ao k]) [[116]] U (λ_=>rfl) (xS ?_);refine lz ([108,111,115,101]:Bs) bW U U U U (xS ?_);refine lB U U iA iA iA iA iA iA λb18=>?_
 refine iu b18 (λk:Bs=>[ao k]) [[116],[116]] U (λ_=>rfl) (xS ?_);refine lz ([99,111,112,121]:Bs) bW U U U U (xS ?_);refine lB U U iA iA iA iA iA iA λJe=>?_;refine iu Je (λk:Bs=>[ao k]) [[116],[116]] U (λ_=>rfl) (xS ?_);refine lz ([109,111,118,101]:Bs) bW U U U U (xS ?_);refine lz ([102,105,108,101,115]:Bs) bW U U U U (xS ?_);refine lB U U iA iA iA iA iA iA λb21=>?_;refine iu b21 (λk:Bs=>[ao k]) [[116]] U (λ_=>rfl) (xS ?_);refine lz ([114,101,97,100]:Bs) bW U U U U (xS ?_);refine lz ([117,115,101,100]:Bs) bW U U U U (xS ?_);refine bb8 m (M':=shM [some ⟨b0,0,none⟩,some ⟨b1,0,none⟩,some ⟨b2,0,none⟩,some ⟨b3,0,none⟩,some ⟨b4,0,none⟩,none,none,none,none,none,none,some ⟨wu,0,none⟩,some ⟨Bl,0,none⟩,some ⟨FE,0,none⟩,some ⟨K7,0,none⟩,some ⟨b15,0,none⟩,some ⟨b16,0,none⟩,some ⟨b17,0,none⟩,some ⟨b18,0,none⟩,some ⟨Je,0,none⟩,none,some ⟨b21,0,none⟩,none]) cA ?_;refine jl Bs RS 1 ?_;refine jl Bs RS 1 ?_;refine jl Bs RS 1 ?_;refine jl Bs RS 1 ?_;refine jl Bs RS 1 ?_;refine jl Bs RS 1 ?_;refine jl Bs RS 1 ?_;refine jl Bs RS 1 ?_;refine X.ret hb (.tmps U) ⟨_,⟨m,[some ⟨b0,0,none⟩,some ⟨b1,0,none⟩,some ⟨b2,0,none⟩,some ⟨b3,0,none⟩,some ⟨b4,0,none⟩,none,none,none,none,none,none,some ⟨wu,0,none⟩,some ⟨Bl,0,none⟩,some ⟨FE,0,none⟩,some ⟨K7,0,none⟩,some ⟨b15,0,none⟩,some ⟨b16,0,none⟩,some ⟨b17,0,none⟩,some ⟨b18,0,none⟩,some ⟨Je,0,none⟩,none,some ⟨b21,0,none⟩,none],U,U,U⟩,?_⟩;show aN _ [mp ao m (shM [some ⟨b0,0,none⟩,some ⟨b1,0,none⟩,some ⟨b2,0,none⟩,some ⟨b3,0,none⟩,some ⟨b4,0,none⟩,none,none,none,none,none,none,some ⟨wu,0,none⟩,some ⟨Bl,0,none⟩,some ⟨FE,0,none⟩,some ⟨K7,0,none⟩,some ⟨b15,0,none⟩,some ⟨b16,0,none⟩,some ⟨b17,0,none⟩,some ⟨b18,0,none⟩,some ⟨Je,0,none⟩,none,some ⟨b21,0,none⟩,none]),bV RS 1 (some ⟨b0,0,none⟩) [[110]],bV RS 1 (some ⟨b1,0,none⟩) [[100,101,101,112,124,102,97,115,116],[110],[110]],bV RS 1 (some ⟨b2,0,none⟩) [[116],[116]],bV RS 1 (some ⟨b3,0,none⟩) [[84]],bV RS 1 (some ⟨b4,0,none⟩) [[116]],bV RS 1 none [],bV RS 1 none [],bV RS 1 none [],bV RS 1 none [],bV RS 1 none [],bV RS 1 none [],bV RS 1 (some ⟨wu,0,none⟩) [[110]],bV RS 1 (some ⟨Bl,0,none⟩) [[110],[98,101,102,111,114,101,124,98,101,104,105,110,100]],bV RS 1 (some ⟨FE,0,none⟩) [[110]],bV RS 1 (some ⟨K7,0,none⟩) [[116],[116]],bV RS 1 (some ⟨b15,0,none⟩) [[116],[110],[120]],bV RS 1 (some ⟨b16,0,none⟩) [[116],[110]],bV RS 1 (some ⟨b17,0,none⟩) [[116]],bV RS 1 (some ⟨b18,0,none⟩) [[116],[116]],bV RS 1 (some ⟨Je,0,none⟩) [[116],[116]],bV RS 1 none [],bV RS 1 (some ⟨b21,0,none⟩) [[116]],bV RS 1 none []];exact ay
end
theorem Qt(y:Bs):∀(T:List Sh) (qs:List (Option Addr)),qs.length=T.length->
 (T.find? (λs=>s.name=y)=none/\fB (List.zipWith (λs a=>(s.name,s.val a)) T qs) y=none)\/
 ∃s q,T.find? (λs=>s.name=y)=some s/\fB (List.zipWith (λs a=>(s.name,s.val a)) T qs) y=some (s.val q)/\aN (List.zipWith (λs a=>bV RS 1 a s.ib) T qs) [bV RS 1 q s.ib]
 |[],[],_=>.inl ⟨U,U⟩
 |s::T,q::qs,h=>by
  by_cases h1:s.name=y
  ·refine .inr ⟨s,q,by simp[h1],?_,?_⟩
   ·simp[fB,h1]
   ·exact fN [_] _
  ·have e1:(s::T).find? (λs=>s.name=y)=T.find? (λs=>s.name=y):=by simp[h1]
   have e2:fB (List.zipWith (fun(s:Sh) a=>(s.name,s.val a)) (s::T) (q::qs)) y=fB (List.zipWith (fun(s:Sh) a=>(s.name,s.val a)) T qs) y:=by simp[fB,h1]
   rw[e1,e2]
   rcases Qt y T qs (by simpa using h)with h2|⟨s',q',h2,h3,h4⟩
   ·exact .inl h2
   ·exact .inr ⟨s',q',h2,h3,(aN.drop _ _).trans h4⟩
def B9(y:Bs):Option Sh:=Ty.find? (λs=>s.name=y)
theorem YD{s:Sh}(h:B9 y=some s):s.ib.length<=3:=by
 have hm:s∈Ty:=Y h
 have:∀s∈Ty,s.ib.length<=3:=by unfold Ty;simp_all
 grind
theorem aq0{s:Sh}(h:B9 y=some s):∀d∈s.ib,d.length<=20:=by
 have hm:s∈Ty:=Y h
 have:∀s∈Ty,∀d∈s.ib,d.length<=20:=by unfold Ty;simp_all
 grind
def ShR:Option Sh->List Value->List az->Prop
 |none,cs,X=>cs=[.slice none 0 0,.nilFunc,.nilFunc]/\X=[]
 |some s,cs,X=>∃q,cs=[.slice q s.ib.length s.ib.length,fv s.f1,fv s.f2]/\X=[bV RS 1 q s.ib]
theorem ShR.cells{S:Option Sh}{cs:List Value}{X:List az}(h:ShR S cs X):∃a n f1 f2,cs=[.slice a n n,fv f1,fv f2]/\mB [.slice a n n,fv f1,fv f2]=true:=by
 have key:∀(a:Option Addr) (n:Nat) (f1 f2:Option Nat),mB [.slice a n n,fv f1,fv f2]=true:=by
  intro a n f1 f2;cases f1<;>cases f2<;>rfl
 cases S with
 |none=>exact⟨none,0,none,none,h.1,key _ _ _ _⟩
 |some s=>obtain⟨q,h,_⟩:=h;grind
theorem tt(y:Bs):TR ab G 60 #[] [] (cb λv B=>∃(m:Nat) (M:List (Bs×Value)) (cs:List Value) (X:List az),v=.map (some m)/\(fB M y).getD (.agg #[.slice none 0 0,.nilFunc,.nilFunc])=.agg cs.toArray/\(fB M y).isSome=(B9 y).isSome/\ShR (B9 y) cs X/\B=[mp ao m M,cV X]):=by
 refine(Tz G).dH (aN.refl _) ?_;rintro e B he;cases e with
 |returned v=>
  obtain⟨m,qs,hq,rfl,rfl⟩:=he;rcases Qt y Ty qs hq with⟨h1,h2⟩|⟨s',q,h2,h3,h4⟩
  ·have h1':B9 y=none:=h1;rw[h1'];exact⟨_,⟨m,_,_,[],U,by grind [shM],by grind [shM],⟨U,U⟩,U⟩,aN.cons _ ((aN.nil _).trans (gp [] []))⟩
  ·have h2':B9 y=some s':=h2;rw[h2'];exact⟨_,⟨m,_,_,[bV RS 1 q s'.ib],U,by rw[shM,h3];rfl,by grind [shM],⟨q,U,U⟩,U⟩,aN.cons _ (h4.trans (gp [_] []))⟩
 |panicked _=>exact he.elim
 |outgrown=>exact he.elim
structure xM where
 word:Bs
 texts:List Bs
 gx:List Nat
def mL:List Bs->Except Unit (List Bs)
 |[]=>.ok []
 |x::r=>match wC x with
  |.error e=>.error e
  |.ok q=>(match mL r with|.ok l=>.ok (q::l)|.error e=>.error e)
def EJ(nd:Bs)(c:xM):List Bs->Except Unit (xM×List Bs)
 |[]=>.error ()
 |x::r=>
  if nd=[110]then(if tr x then .ok ({c with gx:=c.gx++[rE x]},r)else .error ())
  else if nd=[120]then(match zr x with|.ok n=>.ok ({c with gx:=c.gx++[n]},r)|.error e=>.error e)
  else if nd=[116]then(match wC x with|.ok q=>.ok ({c with texts:=c.texts++[q]},r)|.error e=>.error e)
  else if nd=[84]then(match mL (x::r)with|.ok l=>.ok ({c with texts:=c.texts++l},[])|.error e=>.error e)
  else if(splitB 124 nd).contains x then .ok ({c with texts:=c.texts++[x]},r)else .error ()
def ja:List Bs->xM->List Bs->Except Unit xM
 |[],c,rest=>if rest=[]then .ok c else .error ()
 |nd::ns,c,rest=>match EJ nd c rest with
  |.ok p=>ja ns p.1 p.2
  |.error e=>.error e
def tR:List Bs->Except Unit xM
 |[]=>.error ()
 |w::r=>match B9 w with
  |none=>.error ()
  |some s=>ja s.ib ⟨w,[],[]⟩ r
def bx7(c:xM)(p:(Option Addr×Nat)×(Option Addr×Nat)):Value:=.agg #[ao c.word,.slice p.1.1 c.texts.length p.1.2,.slice p.2.1 c.gx.length p.2.2]
@[reducible] def RN:Rp Nat:=bp λn:Nat=>[aX n]
theorem UY(e sz:Nat)(h:X P b β cc k E (own e sz none 0 0 []::Hs) R):X P b β cc k E Hs R:=
 wh (λ_ _ hs=>iZ e sz hs) h
structure CmI where
 i:Nat
 a:Option Addr
 cap:Nat
 rest:List Bs
 cmd:xM
 ta:Option Addr
 tc:Nat
 na:Option Addr
 nc:Nat
theorem YE(a:Option Addr)(n c:Nat)(w:Bs)(l:List Bs)(hn:(w::l).length=n)(hc:n<=c)(hl:∀x∈w::l,x.length<=1000000)(tH:n<=1000000):
 TR ab GG 58 #[.slice a n c] [bV RS 1 a (w::l)] (MR Tw (tR (w::l)) (λq v B=>∃p,v=bx7 q p/\q.texts.length<=p.1.2/\q.gx.length<=p.2.2/\B=[bV RS 1 p.1.1 q.texts,bV RN 1 p.2.1 q.gx])):=by
 refine cg U λb β hb hG=>?_
 have h0:0<(w::l).length:=nH
 refine kB a 0 h0 λbl o ha=>?_
 subst ha
 rw[show(w::l)[0]'h0=w from rfl]
 refine xA ?_
 intro b2
 refine du (j:=0) U U U U U av  ?_
 refine xA ?_
 intro b3
 refine aa1 1 U (ι:={p:Nat×List Value×List az // ShR (B9 w) p.2.1 p.2.2}) (λp=>([(0,.slice (some ⟨bl,o,none⟩) n c),(2,au b2),(3,au b3),(4,au p.1.1),(5,.bool (B9 w).isSome)],[bx b3 60 [ao w,.slice none 0 0,.slice none 0 0],bx b2 60 [ao [],.slice none 0 0,.slice none 0 0],bx p.1.1 121 p.1.2.1,cV p.1.2.2,bV RS 1 (some ⟨bl,o,none⟩) (w::l)])) ?_ ?_
 ·rintro⟨⟨b4,cs,XX⟩,hR⟩;dsimp only at hR ⊢;cases Ko:B9 w with
  |none=>
   have hE:tR (w::l)=.error ():=by rw[tR,Ko]
   refine xS ?_;exact dU hG hb (jy GG false) U U U (aN.refl _) (λ_ _=>⟨(),hE,U,U⟩) (λx hx=>by cases hx)
  |some s=>
   have hE:tR (w::l)=ja s.ib ⟨w,[],[]⟩ l:=by rw[tR,Ko]
   rw[Ko]at hR;have hs3:=YD Ko;obtain⟨q,rfl,rfl⟩:=hR;refine kZ [bV RS 1 q s.ib] (xD ?_);refine dU hG hb (jy GG true) U U U (aN.refl _) (λe he=>by cases he) ?_;rintro _ _ _ _ ⟨rfl,rfl⟩;refine xD ?_;refine nI (l:=1) (h:=n) U U U hn (Bd.at U U) Bd.no av av hc λa2 c2 Nk=>?_;have ZW:n=l.length+1:=by rw[<-hn];simp
   rw[show((w::l).drop 1).take (n - 1)=l from by rw[ZW];simp];refine xS ?_;refine UY 9 1 ?_;refine UY 3 1 ?_;refine X.loop (ι:={p:CmI // tR (w::l)=ja (s.ib.drop p.i) p.cmd p.rest/\p.cmd.word=w/\p.i<=s.ib.length/\p.rest.length<=p.cap/\p.rest.length+p.cmd.texts.length<=n/\p.cmd.gx.length<=p.i/\∀x∈p.rest,x.length<=1000000}) (λp=>([(27,aX p.1.i),(26,aX s.ib.length),(25,.slice q s.ib.length s.ib.length),(0,.slice p.1.a p.1.rest.length p.1.cap),(2,au b2),(3,au b3)],
    [bx b3 60 [ao w,.slice p.1.ta p.1.cmd.texts.length p.1.tc,.slice p.1.na p.1.cmd.gx.length p.1.nc],own 9 1 p.1.ta p.1.cmd.texts.length p.1.tc (p.1.cmd.texts.flatMap λk:Bs=>[ao k]),own 3 1 p.1.na p.1.cmd.gx.length p.1.nc (p.1.cmd.gx.flatMap λk:Nat=>[aX k]),bx b2 60 [ao [],.slice none 0 0,.slice none 0 0],bV RS 1 q s.ib,bV RS 1 p.1.a p.1.rest])) (λp=>s.ib.length - p.1.i) ⟨⟨0,a2,c2,l,⟨w,[],[]⟩,none,0,none,0⟩,hE,U,al _,by dsimp only;omega,by simp;omega,ar _,λx hx=>hl x a08⟩ (Sub.cons U (Sub.cons U (Sub.cons U (Sub.cons (eN U (by dsimp only;rw[ZW,Nat.add_sub_cancel])) (Sub.of U))))) (show aN _ [bx b3 60 [ao w,.slice none 0 0,.slice none 0 0],own 9 1 none 0 0 [],own 3 1 none 0 0 [],bx b2 60 [ao [],.slice none 0 0,.slice none 0 0],bV RS 1 q s.ib,bV RS 1 a2 l]from ay) ?_
   rintro⟨⟨i,a,cap,rest,cmd,ta,tc,na,nc⟩,kL,tK,hp3,hp4,hp5,hp6,hp7⟩ ih;dsimp only at kL tK hp3 hp4 hp5 hp6 hp7 ⊢;refine xB ?_ ?_<;>intro hi
   ·have hi:i<s.ib.length:=by simp at hi;omega
    rw[aP hi,ja]at kL;refine xS ?_;refine kB q i hi λbq oq hbq=>?_;subst hbq;refine du (j:=i) U U U U U hi ?_;have jd:=aq0 Ko _ (aB hi);generalize s.ib[i]=nd at kL jd ⊢;refine xS ?_;by_cases YF:rest=[]
    ·subst YF;exact bn1
    have N7:0<rest.length:=fy.2 YF;rw[show decide ((rest.length:Int)>0)=true from decide_eq_true av];refine dU hG hb (jy GG true) U U U (aN.refl _) (λe he=>by cases he) ?_;rintro _ _ _ _ ⟨rfl,rfl⟩;refine xD ?_;refine nh (ι:={p:CmI // p.rest≠[]/\tR (w::l)=ja (s.ib.drop (i+1)) p.cmd p.rest.tail/\p.cmd.word=w/\p.rest.length<=p.cap/\p.rest.length+p.cmd.texts.length<=n+1/\p.cmd.gx.length<=i+1/\∀x∈p.rest,x.length<=1000000}) (λp=>([(27,aX i),(26,aX s.ib.length),(25,.slice (some ⟨bq,oq,none⟩) s.ib.length s.ib.length),(0,.slice p.1.a p.1.rest.length p.1.cap),(2,au b2),(3,au b3)],
     [bx b3 60 [ao w,.slice p.1.ta p.1.cmd.texts.length p.1.tc,.slice p.1.na p.1.cmd.gx.length p.1.nc],own 9 1 p.1.ta p.1.cmd.texts.length p.1.tc (p.1.cmd.texts.flatMap λk:Bs=>[ao k]),own 3 1 p.1.na p.1.cmd.gx.length p.1.nc (p.1.cmd.gx.flatMap λk:Nat=>[aX k]),bx b2 60 [ao [],.slice none 0 0,.slice none 0 0],bV RS 1 (some ⟨bq,oq,none⟩) s.ib,bV RS 1 p.1.a p.1.rest])) ?_ ?_
    ·rintro⟨⟨i',a,cap,rest,cmd,ta,tc,na,nc⟩,Ms,Ua,U',hq3,hq4,hq5,hq6⟩;dsimp only at Ms Ua U' hq3 hq4 hq5 hq6 ⊢;have N7:0<rest.length:=fy.2 Ms;refine xS ?_;refine nI (l:=1) (h:=rest.length) U U U U (Bd.at U U) Bd.no av av hq3 λa2 c2 Nk=>?_;have NN:(rest.drop 1).take (rest.length - 1)=rest.tail:=by rw[List.drop_one,aD nH]
     rw[NN];have Fj:rest.tail.length=rest.length - 1:=List.length_tail;refine xS ?_;refine X.less (ih ⟨⟨i+1,a2,c2,rest.tail,cmd,ta,tc,na,nc⟩,Ua,U',by dsimp only;omega,by dsimp only;omega,by dsimp only;omega,by dsimp only;omega,λx hx=>hq6 x (List.mem_of_mem_tail hx)⟩ gm) (Sub.cons (eN U pH) (Sub.cons U (Sub.cons U (Sub.cons (eN U (by dsimp only;rw[Fj])) (Sub.of U))))) ay
    intro kk nxt;obtain⟨x,r,hxr⟩:∃x r,rest=x::r:=by cases rest with|nil=>exact absurd U YF|cons x r=>exact⟨x,r,U⟩
    have hx0:rest[0]'N7=x:=by simp[hxr]
    rw[hxr]at kL;rw[EJ]at kL;have hxl:=hp7 x (by simp[hxr]);refine kB a 0 N7 λba oa hba=>?_;subst hba;rw[hx0];by_cases C9:nd=[110]
    ·rw[if_pos C9]at kL;subst C9;refine xS ?_;refine eR 5 [2,0] ?_;apply cW [0,1,2,3,4] U U U
     ·exact Lx
     ·rfl
     ·rfl
     refine xS ?_;cases AL:tr x with
     |false=>
      rw[AL]at kL;exact dU hG hb (Qs x av) U U U (aN.refl _) (λ_ _=>⟨(),kL,U,U⟩) (λx hx=>by rw[AL]at hx;cases hx)
     |true=>
      rw[AL]at kL;refine dU hG hb (Qs x av) U U U (aN.refl _) (λ_ he=>by rw[AL]at he;cases he) ?_;rintro v hv _ _ ⟨rfl,rfl⟩;rw[AL]at hv;cases hv;refine xD ?_;refine xZ ?_;intro b9;refine eD (rE x) U U U U SZ U iA iA iA iA iA av λa9 c9=>xS ?_;exact X.W (nxt ⟨⟨i,some ⟨ba,oa,none⟩,cap,rest,{cmd with gx:=cmd.gx++[rE x]},ta,tc,a9,c9⟩,YF,by rw[kL,hxr];rfl,tK,hp4,by dsimp only;omega,by simp;omega,hp7⟩)
    rw[if_neg C9]at kL;rw[show(nd==[110])=false from by simpa using C9];refine xS ?_;by_cases tH:nd=[120]
    ·rw[if_pos tH]at kL;subst tH;refine xS ?_;refine eR 5 [2,0] ?_;apply cW [0,1,2,3,4] U U U
     ·exact Lx
     ·rfl
     ·rfl
     refine xS ?_;cases AL:zr x with
     |error e=>
      rw[AL]at kL;exact dU hG hb (IX x) U U U (aN.refl _) (λ_ _=>⟨(),kL,U,U⟩) (λx hx=>by rw[AL]at hx;cases hx)
     |ok v=>
      rw[AL]at kL;refine dU hG hb (IX x) U U U (aN.refl _) (λ_ he=>by rw[AL]at he;cases he) ?_;rintro v' hv _ _ ⟨rfl,rfl⟩;rw[AL]at hv;cases hv;refine xD ?_;refine xZ ?_;intro b9;refine eD (v) U U U U SZ U iA iA iA iA iA av λa9 c9=>xS ?_;exact X.W (nxt ⟨⟨i,some ⟨ba,oa,none⟩,cap,rest,{cmd with gx:=cmd.gx++[v]},ta,tc,a9,c9⟩,YF,by rw[kL,hxr];rfl,tK,hp4,by dsimp only;omega,by simp;omega,hp7⟩)
    rw[if_neg tH]at kL;rw[show(nd==[120])=false from by simpa using tH];clear tH;refine xS ?_;by_cases tH:nd=[116]
    ·rw[if_pos tH]at kL;subst tH;refine xS ?_;refine eR 5 [2,0] ?_;apply cW [0,1,2,3,4] U U U
     ·exact Lx
     ·rfl
     ·rfl
     refine xS ?_;cases AL:wC x with
     |error e=>
      rw[AL]at kL;exact dU hG hb (ve x av) U U U (aN.refl _) (λ_ _=>⟨(),kL,U,U⟩) (λx hx=>by rw[AL]at hx;cases hx)
     |ok v=>
      rw[AL]at kL;refine dU hG hb (ve x av) U U U (aN.refl _) (λ_ he=>by rw[AL]at he;cases he) ?_;rintro v' hv _ _ ⟨rfl,rfl⟩;rw[AL]at hv;cases hv;refine xD ?_;refine xZ ?_;intro b9;refine eD (v) U U U U SZ U iA iA iA iA iA av λa9 c9=>xS ?_;exact X.W (nxt ⟨⟨i,some ⟨ba,oa,none⟩,cap,rest,{cmd with texts:=cmd.texts++[v]},a9,c9,na,nc⟩,YF,by rw[kL,hxr];rfl,tK,hp4,by simp;omega,by dsimp only;omega,hp7⟩)
    rw[if_neg tH]at kL;rw[show(nd==[116])=false from by simpa using tH];clear tH;refine xS ?_;by_cases tH:nd=[84]
    ·rw[if_pos tH]at kL;subst tH;refine xS ?_;have hE0:∀tl,zt (cmd.texts++·) (mL rest)=.ok tl->tR (w::l)=ja (s.ib.drop (i+1)) {cmd with texts:=tl} []:=by
      intro tl hl;rw[kL];rw[hxr]at hl;cases hq:mL (x::r)with
      |error e=>rw[hq]at hl;cases hl
      |ok z=>rw[hq]at hl;cases hl;rfl
     have hE1:(∃e,zt (cmd.texts++·) (mL rest)=.error e)->tR (w::l)=.error ():=by
      rintro⟨e,hl⟩;rw[kL];rw[hxr]at hl;cases hq:mL (x::r)with
      |error e=>rfl
      |ok z=>rw[hq]at hl;cases hl
     refine X.loop (ι:={p:CmI // p.rest≠[]/\zt (cmd.texts++·) (mL rest)=zt (p.cmd.texts++·) (mL p.rest)/\p.rest.length<=p.cap/\p.rest.length+p.cmd.texts.length<=n/\∀x∈p.rest,x.length<=1000000}) (λp=>([(27,aX i),(26,aX s.ib.length),(25,.slice (some ⟨bq,oq,none⟩) s.ib.length s.ib.length),(0,.slice p.1.a p.1.rest.length p.1.cap),(2,au b2),(3,au b3)],
      [bx b3 60 [ao w,.slice p.1.ta p.1.cmd.texts.length p.1.tc,.slice na cmd.gx.length nc],own 9 1 p.1.ta p.1.cmd.texts.length p.1.tc (p.1.cmd.texts.flatMap λk:Bs=>[ao k]),own 3 1 na cmd.gx.length nc (cmd.gx.flatMap λk:Nat=>[aX k]),bx b2 60 [ao [],.slice none 0 0,.slice none 0 0],bV RS 1 (some ⟨bq,oq,none⟩) s.ib,bV RS 1 p.1.a p.1.rest])) (λp=>p.1.rest.length) ⟨⟨i,some ⟨ba,oa,none⟩,cap,rest,cmd,ta,tc,na,nc⟩,YF,U,hp4,by dsimp only;omega,hp7⟩ (Sub.of U) ay ?_
     rintro⟨⟨_,a2,cap2,tS,⟨_,texts,_⟩,ta2,tc2,_,_⟩,hz0,Gn,YU,hz3,hz4⟩ pG;dsimp only at hz0 Gn YU hz3 hz4 ⊢;have hrl2:0<tS.length:=fy.2 hz0;obtain⟨y,r2,hyr⟩:∃y r2,tS=y::r2:=by cases tS with|nil=>exact absurd U hz0|cons x r=>exact⟨x,r,U⟩
     have hy0:tS[0]'hrl2=y:=by simp[hyr]
     have Kf:=hz4 y (by simp[hyr]);have hrl3:tS.length=r2.length+1:=by simp[hyr]
     refine kB a2 0 hrl2 λba2 oa2 hba2=>?_;subst hba2;rw[hy0];rw[hyr,mL]at Gn;refine xB ?_ ?_<;>intro LN
     ·have LN:1<tS.length:=by simp at LN;omega
      refine xS ?_;refine eR 5 [1,0] ?_;apply cW [0,1,2,3,4] U U U
      ·exact Lx
      ·rfl
      ·rfl
      refine xS ?_;cases AL:wC y with
      |error e=>
       exact aM3
      |ok v=>
       rw[AL]at Gn;refine dU hG hb (ve y av) U U U (aN.refl _) (λ_ he=>by rw[AL]at he;cases he) ?_;rintro v' hv _ _ ⟨rfl,rfl⟩;rw[AL]at hv;cases hv;refine xD ?_;refine xZ ?_;intro b9;refine eD (v) U U U U SZ U iA iA iA iA iA av λa9 c9=>xS ?_;refine nI (l:=1) (h:=tS.length) U U U U (Bd.at U U) Bd.no av av YU λa3 c3 hc3=>?_;rw[show(tS.drop 1).take (tS.length - 1)=r2 from by rw[hyr];simp,show tS.length - 1=r2.length from by omega];refine xS ?_;refine X.W (pG ⟨⟨i,a3,c3,r2,{cmd with texts:=texts++[v]},a9,c9,na,nc⟩,by rintro rfl;simp at hrl3;omega,?_,by dsimp only;omega,by simp;omega,λz hz=>hz4 z (by rw[hyr];simp[hz])⟩ gm);rw[Gn];cases mL r2<;>simp[zt]
     ·have h1m:tS.length=1:=by simp at LN;omega
      have LN:r2=[]:=List.eq_nil_of_length_eq_zero av;subst LN;refine xS ?_;refine eR 5 [1,0] ?_;apply cW [0,1,2,3,4] U U U
      ·exact Lx
      ·rfl
      ·rfl
      refine xS ?_;cases AL:wC y with
      |error e=>
       exact aM3
      |ok v=>
       rw[AL]at Gn;refine dU hG hb (ve y av) U U U (aN.refl _) (λ_ he=>by rw[AL]at he;cases he) ?_;rintro v' hv _ _ ⟨rfl,rfl⟩;rw[AL]at hv;cases hv;refine xD ?_;refine xZ ?_;intro b9;refine eD (v) U U U U SZ U iA iA iA iA iA av λa9 c9=>xS ?_;exact X.W (nxt ⟨⟨i,some ⟨ba2,oa2,none⟩,cap2,tS,{cmd with texts:=texts++[v]},a9,c9,na,nc⟩,hz0,by rw[hE0 (texts++[v]) (by rw[Gn];rfl),hyr];rfl,tK,YU,by simp;omega,by dsimp only;omega,hz4⟩)
    rw[if_neg tH]at kL;rw[show(nd==[84])=false from by simpa using tH];clear tH;refine xS ?_;refine nR [0,2,3,4] [0] ?_;apply cW [0,2,3,4] U U U
    ·exact Lx
    ·rfl
    ·rfl
    refine xS ?_;refine bw (Kq GG nd 124 av) ?_;rintro _ _ ⟨aS,cS,rfl,hcS,rfl⟩;refine xD ?_;refine xJ (Df GG aS _ cS (splitB 124 nd) x U (by rw[sU];have:bP nd 124<=nd.length:=List.count_le_length;omega)) ?_;cases Uf:(splitB 124 nd).contains x with
    |false=>
     rw[Uf]at kL;exact bn1
    |true=>
     rw[Uf]at kL;refine dU hG hb (jy GG true) U U U (aN.refl _) (λe he=>by cases he) ?_;rintro _ _ _ _ ⟨rfl,rfl⟩;refine xD ?_;refine eR 5 [3,1] ?_;apply cW [0,1,2,3,4] U U U
     ·exact Lx
     ·rfl
     ·rfl
     refine xZ ?_;intro b9;refine eD (x) U U U U SZ U iA iA iA iA iA av λa9 c9=>xS ?_;exact X.W (nxt ⟨⟨i,some ⟨ba,oa,none⟩,cap,rest,{cmd with texts:=cmd.texts++[x]},a9,c9,na,nc⟩,YF,by rw[kL,hxr];rfl,tK,hp4,by simp;omega,by dsimp only;omega,hp7⟩)
   ·have hi:i=s.ib.length:=by simp at hi;omega
    subst hi;rw[bc (ar _),ja]at kL;refine xS ?_;cases qV:rest with
    |nil=>
     rw[if_pos qV]at kL;refine xS ?_;refine dU hG hb (jy GG true) U U U (aN.refl _) (λe he=>by cases he) ?_;rintro _ _ _ _ ⟨rfl,rfl⟩;refine xD ?_;refine dE ta (λk:Bs=>[ao k]) cmd.texts U U (λ_=>rfl) λDb=>?_;refine dE na (λk:Nat=>[aX k]) cmd.gx U U (λ_=>rfl) λNk=>?_;subst tK;exact bO hb (.gX U U .nil) ⟨cmd,kL,((ta,tc),(na,nc)),U,Db,Nk,U⟩
    |cons x r=>
     rw[if_neg (by rw[qV];simp)]at kL;rw[show((((x::r).length:Nat):Int)==0)=false from by rw[beq_eq_false_iff_ne];simp;omega];exact bn1
 intro fin
 refine nR [1,2,3,5,6,7] [2] ?_
 apply cW [1,2,3] U U U
 ·exact Lx
 ·rfl
 ·rfl
 refine dA U U U U U ?_ ?_
 ·skip
  refine bw (tt GG w) ?_
  rintro _ _ ⟨m,M,cs,XX,rfl,hM1,hM2,hR,rfl⟩
  dsimp only[ae,ai,ah]
  obtain⟨aq,nq,f1,f2,rfl,jD⟩:=hR.cells
  refine X.sw ?_
  refine dA U U U U U ?_ ?_
  ·skip
   refine UG w bW U U U U (zv:=.agg #[.slice none 0 0,.nilFunc,.nilFunc]) (λw _=>Tryz.zeroValue121 w) ?_
   rw[hM1,hM2]
   refine X.sw ?_
   refine xL [5,6,7] ?_
   refine mr U U U U ?_
   refine xA ?_
   intro b4
   exact bn9
  ·skip
   refine xA ?_
   intro b4
   exact bh8
 ·skip
  refine xA ?_
  intro b4
  refine bw (tt GG w) ?_
  rintro _ _ ⟨m,M,cs,XX,rfl,hM1,hM2,hR,rfl⟩
  dsimp only[ae,ai,ah]
  obtain⟨aq,nq,f1,f2,rfl,jD⟩:=hR.cells
  refine xS ?_
  exact bh8
end
section
variable(k:Nat)(s t:Bs)(G:bZ)(x:Nat)(A:List az)
abbrev WC:=xM×(Option Addr×Nat)×(Option Addr×Nat)
@[reducible] def TB(x:WC):List Value:=[ao x.1.word,.slice x.2.1.1 x.1.texts.length x.2.1.2,.slice x.2.2.1 x.1.gx.length x.2.2.2]
def YH(q:List WC):az:=ro λr=>∀x∈q,(x.1.texts.length<=x.2.1.2/\x.1.gx.length<=x.2.2.2)/\vW RS 1 x.2.1.1 x.1.texts r/\vW RN 1 x.2.2.1 x.1.gx r
section
variable {P:Program}{b:Frame}{β:bS}{k:Kt}{E:Env}{Hs:List az}{R:Ending->List az->Prop}{cc:Option (Array Oper×List Oper)}
class FRC(Hs:List az)(q:List WC):Prop where out:∃F,aN Hs (YH q::F)
instance FRC.here(q:List WC)(Hs:List az):FRC (YH q::Hs) q:=⟨Hs,aN.refl _⟩
instance(priority:=low) FRC.there(p:az)(Hs:List az)(q:List WC)[h:FRC Hs q]:FRC (p::Hs) q:=
 let⟨F,hr⟩:=h.out;⟨p::F,(aN.cons p hr).trans (cQ _ _ _)⟩
theorem bd1(h:X P b β cc k E (YH []::Hs) R):X P b β cc k E Hs R:=
 X.cd (Hs':=YH []::Hs) (λ_ o hs=>⟨fL,o,cR _,cJ _,.refl _,λ_ _ x hx=>ua,hs⟩) h
theorem bc3(q:List WC)(y:WC)(h1:y.1.texts.length<=y.2.1.2)(h2:y.1.gx.length<=y.2.2.2)[hf:FRC Hs q][hs:zI Hs y.2.1.1 RS 1 y.1.texts][ug:zI Hs y.2.2.1 RN 1 y.1.gx]
 (h:X P b β cc k E (YH (q++[y])::Hs) R):X P b β cc k E Hs R:=by
 obtain⟨F,hF⟩:=hf.out
 obtain⟨F2,hF2⟩:=hs.out
 obtain⟨F3,hF3⟩:=ug.out
 refine X.cd ?_ h
 intro r o hh
 obtain⟨o1,o2,_,_,_,kL,_⟩:=hF r o hh
 obtain⟨o3,o4,_,_,_,tK,_⟩:=hF2 r o hh
 obtain⟨o5,o6,_,_,_,hp3,_⟩:=hF3 r o hh
 refine⟨fL,o,cR _,cJ _,.refl _,λr' nG x hx=>?_,hh⟩
 rcases cM.1 hx with hx|hx
 ·exact kL r' nG x hx
 ·obtain rfl:=bD.1 hx;exact⟨⟨h1,h2⟩,tK r' nG,hp3 r' nG⟩
theorem be4(q:List WC)(y:WC)(hy:y∈q)[hf:FRC Hs q](h:y.1.texts.length<=y.2.1.2->y.1.gx.length<=y.2.2.2->X P b β cc k E (bV RS 1 y.2.1.1 y.1.texts::bV RN 1 y.2.2.1 y.1.gx::Hs) R):X P b β cc k E Hs R:=by
 obtain⟨F,hF⟩:=hf.out;refine jo λw hs=>?_;have h1:=Sat.ro (hs.cd hF) y hy;have e1:=il (q:=Go.Sl.vW RN 1 y.2.2.1 y.1.gx) hF (λr hr=>(hr y hy).2.2);have e2:=il (q:=Go.Sl.vW RS 1 y.2.1.1 y.1.texts) (e1.trans ((aN.cons _ hF).trans (cQ _ _ _))) (λr hr=>(hr y hy).2.1);refine⟨_,(hs.cd e1).cd ?_,h h1.1.1 h1.1.2⟩;exact il (q:=Go.Sl.vW RS 1 y.2.1.1 y.1.texts) ((aN.cons _ hF).trans (cQ _ _ _)) (λr hr=>(hr y hy).2.1)
end
theorem aq2:TD0 ab G 52 #[au x] A A:=λβ w _ hs=>by
 have h1:∀w:World,(binOp BinOp.neq 20 .nilIface .nilIface).run ab w=.ok (.bool false) w:=λ_=>by kernel_rfl
 refine callsD_of_wpS Tryz.func52 U λc₀ cs hu=>?_;apply wpS_seq;apply wpS_region;simp[wpOpsS,go_sem,recoverD,hu,Tryz.ntmps52,Exit.thenS];refine wpS_of_wp ?_;apply wp_seq;apply wp_region;simp[go_sem];simp[wpOps,go_sem,h1,eqGuard,Exit.then];refine .inl (.inl (wp_cond_false bi0 (wp_skip ?_)));simp[Exit.inBlock,bodyPostS,Exit.then];exact⟨.returning,(K8 hu).symm,⟨_,by simp[results];rfl⟩,U,hs⟩
theorem aq3(cs:List Value)(h:∃v,cs=[v]):TP ab G 52 #[au x] (Tw ()) [bx x 48 cs] [bx x 48 [.slice none 0 0]]:=λβ w _ hs=>by
 have h1:∀w:World,(binOp BinOp.neq 20 (.iface 111 (.agg #[])) .nilIface).run ab w=.ok (.bool true) w:=λ_=>by kernel_rfl
 have h2:∀w:World,(Instr.typeAssert (.iface 111 (.agg #[])) 20 111 false).run ab w=.ok (.agg #[]) w:=λ_=>by kernel_rfl
 refine callsD_of_wpS Tryz.func52 U λc₀ cs hu=>?_;have hu:c₀.mode=.panicking [pe (.iface 111 (.agg #[]))]:=hu;apply wpS_seq;apply wpS_region;simp[wpOpsS,go_sem,recoverD,hu,Tryz.ntmps52,Exit.thenS,pe];refine wpS_of_wp ?_;apply wp_seq;apply wp_region;simp[go_sem];simp[wpOps,go_sem,h1,eqGuard,Exit.then];obtain⟨v,rfl⟩:=h;obtain⟨w1,Rn,Bi⟩:=hs.store (P:=ab) (t:=48) (i:=0) (aN.refl _) (v:=.slice none 0 0) U U U U;refine .inl (.inl (wp_cond_true bi0 ?_));apply wp_seq;apply wp_region;simp[go_sem];simp[wpOps,go_sem,Oper.upon,execOp,h2,Exit.then];refine .inl (.inl ?_);apply wp_region;simp[go_sem];simp[wpOps,Region.wanted,Act.eval,Act.put,execOp,Oper.wp,Oper.upon,Rn,bodyPostS];exact .inl ⟨⟨_,by simp[results];rfl⟩,U,Bi⟩
def Hn(l:Bs):Except Unit (List xM):=
 if cy yO 0 l<0 then
  match iG l with
  |[]=>.ok []
  |w::r=>if w.headD 0=35 then .ok []else match tR (w::r)with
   |.error _=>.error ()
   |.ok c=>.ok [c]
 else .error ()
def kJ:Nat->List Bs->List xM->Except Nat (List xM)
 |_,[],acc=>.ok acc
 |i,l::r,acc=>match Hn l with
  |.error _=>.error (i+1)
  |.ok cs=>kJ (i+1) r (acc++cs)
def kK(s:Bs):Except Nat (List xM):=kJ 0 (splitB 10 s) []
def by0(r:Except Nat (List xM))(v:Value)(B:List az):Prop:=match r with
 |.error i=>v=.tuple #[.slice none 0 0,aX i]/\B=[]
 |.ok cs=>∃q:List WC,q.map (·.1)=cs/\∃a c,v=.tuple #[.slice a q.length c,.int .i64 0]/\B=[own 60 3 a q.length c (q.flatMap TB),YH q]
theorem tu(c:UInt8):∀(s:Bs),∀l∈splitB c s,l.length<=s.length
 |[],l,h=>by grind [splitB]
 |x::r,l,h=>by
  have ih:=tu c r
  grind [splitB]
theorem pS:∀(l cur:Bs),∀w∈ab8 cur l,w≠[]/\w.length<=cur.length+l.length
 |[],cur,w,h=>by
  grind [ab8]
 |b::l,cur,w,h=>by
  rw[ab8]at h;split at h
  ·split at h
   ·have:=pS l [] w h;grind
   ·rename_i hc
    rcases bK.1 h with rfl|h
    ·grind
    ·have:=pS l [] w h;grind
  ·have:=pS l (cur++[b]) w h;grind
theorem zu:(iG s).length<=s.length/\∀w∈iG s,w≠[]/\w.length<=s.length:=
 ⟨by grind [Lib.fields_length,Ih],λw hw=>by have:=pS s [] w hw;grind⟩
theorem Ho(hs:s.length<=20000):TR ab GG 17 #[ao s] [] (cb (by0 (kK s))):=by
 refine cg U λb β hb hG=>?_;have hLl:(splitB 10 s).length<=20001:=by grind [sU,bP]
 have hLm:∀l∈splitB 10 s,l.length<=20000:=λl hl=>aj (tu 10 s l hl) hs;have bu:kJ 0 ((splitB 10 s).drop 0) []=kK s:=U;generalize kK s=res at*;refine xA ?_;intro b2;refine UW (fst:=[]) (us:=[]) (cap:=[au b2]) hb U U U (xS ?_);refine bw (Kq GG s 10 av) ?_;rintro _ _ ⟨aL,cL,rfl,hcL,rfl⟩;dsimp only[ae,ai,ah];generalize splitB 10 s=L at*;refine xS ?_;refine X.cd (ej 60 3 _) ?_;refine bd1 ?_;refine X.loop (ι:={z:Nat×List WC×(Option Addr×Nat) // z.1<=L.length/\kJ z.1 (L.drop z.1) (z.2.1.map (·.1))=res/\z.2.1.length<=z.1}) (λz=>([(0,ao s),(2,au b2),(9,.slice aL L.length cL),(10,aX L.length),(11,aX z.1.1)],[YH z.1.2.1,own 60 3 z.1.2.2.1 z.1.2.1.length z.1.2.2.2 (z.1.2.1.flatMap TB),bx b2 48 [.slice z.1.2.2.1 z.1.2.1.length z.1.2.2.2],bV RS 1 aL L])) (λz=>L.length - z.1.1)
  ⟨(0,[],(none,0)),al _,bu,ar _⟩ (Sub.of U) (show aN _ [YH [],own 60 3 none 0 0 [],bx b2 48 [.slice none 0 0],bV RS 1 aL L]from ay) ?_
 rintro⟨⟨i,q,a,c⟩,hi,hp,Z6⟩ ih;dsimp only at hi hp Z6 ⊢;refine xB ?_ ?_<;>intro h
 ·have hi:i<L.length:=by grind
  rw[aP hi,kJ]at hp;have hl:=hLm _ (aB hi);refine xS ?_;refine cH U U U U U hi U λbl o=>?_;generalize L[i]=l at*;refine xJ (Kr GG l av) ?_;by_cases rA:cy yO 0 l<0
  ·rw[show decide (cy yO 0 l<0)=true from decide_eq_true rA];refine uk (us1:=[]) (cap1:=[au b2]) hG hb (jy GG true) U U U iv (λe he=>by cases he) ?_;rintro _ _ _ _ ⟨rfl,rfl⟩;refine xD ?_;have hasc:∀x∈l,x.toNat<128:=by grind [GH,yO]
   obtain⟨pN,hfw⟩:=zu l;rw[Hn,if_pos rA]at hp;refine bw (R4 l av hasc) ?_;rintro _ _ ⟨aF,rfl,rfl⟩;dsimp only[ae,ai,ah];refine dE aF (λk:Bs=>[ao k]) (iG l) List.map_eq_flatMap U (λ_=>rfl) λ_=>?_;generalize iG l=ws at*;refine xS ?_;cases ws with
   |nil=>
    refine aM 27 false U U (xS ?_);exact aA1
   |cons w r=>
    refine aM 27 true U nH ?_;obtain⟨Rn,Ob⟩:=hfw w nH;have hwl:0<w.length:=fy.2 Rn;refine xS ?_;have h0:0<(w::r).length:=nH;refine kB aF 0 h0 λbf of hF=>?_;subst hF;rw[show(w::r)[0]'h0=w from rfl];refine du (j:=0) U U U U U av (xS ?_);refine kz (l:=w) (j:=0) U U U U U hwl ?_;have hhd:w.headD 0=w[0]'hwl:=FY;dsimp only at hp;rw[hhd]at hp;generalize w[0]'hwl=x at*;refine xS ?_;by_cases h3:x=35
    ·subst h3;rw[if_pos U]at hp;refine aM 32 false U iA (xS ?_);exact aA1
    ·have M6:((x.toNat:Int)!=35)=true:=by
      rw[bne_iff_ne];exact aQ7
     rw[if_neg h3]at hp;refine aM 33 true U M6 (xS ?_);refine eR 2 [5] ?_;refine xL [0,1] ?_;refine xS ?_;refine UH (us1:=[]) (cap1:=[au b2]) hG hb [(2,au b2),(3,aX (i+1:Nat))] (YE (some ⟨bf,of,none⟩) (w::r).length (w::r).length w r U (ar _) (λx hx=>aj (hfw x hx).2 av) av) U U U aN.es (Sub.of U) U (λe he=>?_) ?_
     ·rw[he]at hp;have hp:Except.error (i+1)=res:=hp;subst hp;exact ay1
     ·rintro qc Z7 v B ⟨p,rfl,kL,tK,rfl⟩;rw[Z7]at hp;refine xD ?_;refine xZ ?_;intro b9;refine eD ((qc,p)) U U U U av U iA iA iA iA iA av λa9 c9=>xS ?_;refine bc3 q (qc,p) kL tK ?_;have hp:kJ (i+1) (L.drop (i+1)) (q.map (·.1)++[qc])=res:=hp;exact X.W (ih ⟨(i+1,q++[(qc,p)],a9,c9),by omega,by grind,by grind⟩ bE)
  ·rw[show decide (cy yO 0 l<0)=false from decide_eq_false rA];rw[Hn,if_neg rA]at hp;have hp:Except.error (i+1)=res:=hp;subst hp;refine uk (us1:=[]) (cap1:=[au b2]) hG hb (jy GG false) U U U iv (λe he=>?_) (λx hx=>by cases hx);exact ay1
 ·have hi:i=L.length:=by grind
  subst hi;rw[bc (ar _),kJ]at hp;subst hp;refine xS ?_;exact Pf (us:=[]) (cap:=[au b2]) hb hG (aq2 GG b2 []) (.cell U U (.tmp U .nil)) ⟨_,⟨q,U,a,c,U,U⟩,ay⟩
def F5(e:Int):Prop:= -9223372036854775808<=e/\e<=9223372036854775807
theorem ab1(B A F:List az):aN ((B++A)++F) ((A++F)++B):=by
 rw[bT];exact di cG
theorem CA(u:UInt64):(gT u.toNat).length<=20:=by
 rw[Lib.decDigits_length];exact Lib.nDigits_le20 _ u.toNat_lt
section
variable {S D:Nat}{x:fJ}{d:be}{w:Bs}{a na:Option Addr}{c nn nc:Nat}
theorem aq4(k v:Bs)(hl:d.files.length<=100000000000)(hw:x.wr.kS)(gE:dI x.dir+1<=1000000000)(he:F5 (x.put d k v).2):
 TR ab GG 99 #[au S,.agg #[ao w,.slice a 2 c,.slice na nn nc]] [dX (S,D,0) x,bM D d,bV RS 1 a [k,v]] (cb λu B=>u=ao (gF (x.put d k v).2)/\B=[dX (S,D,0) (x.put d k v).1.1,bM D (x.put d k v).1.2]):=by
 refine aW U λb β hb hG=>?_
 refine kB a 0 nH λbl o ha=>?_
 subst ha
 refine kB (some ⟨bl,o,none⟩) 1 nH λbl' o' ha=>?_
 cases ha
 rw[show[k,v][0]=k from rfl,show[k,v][1]=v from rfl]
 refine xP ?_
 intro b3
 refine eR 9 [0,2,1] ?_
 apply cW [0,1,2,3,4,5,6,7,8] U U U
 ·intro p hp;refine xS ?_;refine du (j:=0) U U U U U av (xS ?_);refine du (j:=1) U U U U U av (xS ?_);refine Pr (hf:=C2.there _ _ _ _ _ _ _ (h:=C2.there _ _ _ _ _ _ _ (h:=C2.here _ _ _ _ _ _))) U U U iA (xS ?_);exact hp
 ·rfl
 ·rfl
 refine xS ?_
 refine bw (To S D x d k v hl hw gE) ?_
 rintro u B ⟨B1,PR,rfl⟩
 refine X.cd (ab1 _ _ _) (xD ?_)
 refine ei hG (tq a16 _ u B1 PR he.1 he.2) U U U (di (cG (l₁:=[_,_,_,_,_,_]) (l₂:=B1))) ?_
 rintro _ _ ⟨rfl,rfl⟩
 refine xD ?_
 exact xR
theorem aq5(ks:List Bs)(jd:ks.length<=100000)(N:Nat)(hx:x.ok N)(hN:N+ks.length<=900000000)(hl:d.files.length<=90000000000)(he:F5 (x.delete d ks).2):
 TR ab GG 101 #[au S,.agg #[ao w,.slice a ks.length c,.slice na nn nc]] [dX (S,D,0) x,bM D d,bV RS 1 a ks] (cb λu B=>u=ao (gF (x.delete d ks).2)/\B=[dX (S,D,0) (x.delete d ks).1.1,bM D (x.delete d ks).1.2]):=by
 refine aW U λb β hb hG=>?_
 refine xP ?_
 intro b3
 refine bw (IU S D x d a ks.length c ks U N hx hN hl) ?_
 rintro u B ⟨B1,PR,rfl⟩
 rw[bT]
 refine xS ?_
 refine bw (tq zp _ u B1 PR he.1 he.2) ?_
 rintro _ _ ⟨rfl,rfl⟩
 refine xD ?_
 exact xR
def aq6(r:Bs×Bool×Int):Bs:=if r.2.2≠0 then gF r.2.2 else if r.2.1=false then[110,111,116,104,105,110,103]else[61,32]++iV r.1
theorem aq7(k:Bs)(gE:dI x.dir<=1000000000)(tJ:LD (x.dir.get k).1.place)(he:F5 (x.get d k).2.2.2)(hv:(x.get d k).2.1.length<=100000000):
 TR ab GG 102 #[au S,.agg #[ao w,.slice a 1 c,.slice na nn nc]] [dX (S,D,0) x,bM D d,bV RS 1 a [k]] (cb λu B=>u=ao (aq6 (x.get d k).2)/\B=[dX (S,D,0) x,bM D (x.get d k).1]):=by
 refine aW U λb β hb hG=>?_
 refine kB a 0 nH λbl o ha=>?_
 subst ha
 rw[show[k][0]=k from rfl]
 refine xP ?_
 intro b3
 refine du (j:=0) U U U U U av (xS ?_)
 refine bw (Hl S D x d k gE tJ) ?_
 rintro _ B ⟨u,rfl,B1,PR,rfl⟩
 generalize x.get d k=r at*
 obtain⟨d1,val,is,e⟩:=r
 dsimp only at he hv PR ⊢
 refine xS ?_
 rcases PR with⟨rfl,rfl,rfl⟩|⟨me,p,rfl,rfl⟩
 ·dsimp only[ae,ai,ah];refine pg U U U U U (xS ?_);cases is with
  |false=>
   exact xR
  |true=>
   refine xJ (oy val av) ?_;have hl:=kl val;exact xR
 ·dsimp only[ae,ai,ah];refine pg U U U U U (xS ?_);refine bw (tq a15 _ _ _ (.inr ⟨me,p,U,U⟩) he.1 he.2) ?_;rintro _ _ ⟨rfl,rfl⟩;refine xD ?_;exact bO hb (.tmps U) ⟨by unfold aq6;rw[if_pos me];rfl,U⟩
theorem YI(he:F5 (x.sync d).2):
 TR ab GG 103 #[au S,.agg #[ao w,.slice a nn c,.slice na nn nc]] [dX (S,D,0) x,bM D d] (cb λu B=>u=ao (gF (x.sync d).2)/\B=[dX (S,D,0) (x.sync d).1.1,bM D (x.sync d).1.2]):=by
 refine aW U λb β hb hG=>?_
 refine xP ?_
 intro b3
 refine bw (OL S D x d) ?_
 rintro u B ⟨B1,PR,rfl⟩
 rw[bT]
 refine xS ?_
 refine bw (tq LF _ u B1 PR he.1 he.2) ?_
 rintro _ _ ⟨rfl,rfl⟩
 refine xD ?_
 exact xR
theorem TC(hc:x.OM)(hl:d.files.length<=50000000000)(Fl:(WD.close (x.wr,d)).1.2.files.length<=50000000000)(pz:(lu (WD.close (x.wr,d)).1.2 x.cK).1.files.length<=100000000000)(he:F5 (x.merge d).2):
 TR ab GG 104 #[au S,.agg #[ao w,.slice a nn c,.slice na nn nc]] [dX (S,D,0) x,bM D d] (cb λu B=>u=ao (gF (x.merge d).2)/\B=[dX (S,D,0) (x.merge d).1.1,bM D (x.merge d).1.2]):=by
 refine aW U λb β hb hG=>?_
 refine xP ?_
 intro b3
 refine bw (LI S D x d hc hl Fl pz) ?_
 rintro u B ⟨B1,PR,rfl⟩
 rw[bT]
 refine xS ?_
 refine bw (tq EH _ u B1 PR he.1 he.2) ?_
 rintro _ _ ⟨rfl,rfl⟩
 refine xD ?_
 exact xR
theorem TE(he:F5 (x.close d).2):
 TR ab GG 105 #[au S,.agg #[ao w,.slice a nn c,.slice na nn nc]] [dX (S,D,0) x,bM D d] (cb λu B=>u=ao (gF (x.close d).2)/\B=[dX (S,D,0) (x.close d).1.1,bM D (x.close d).1.2]):=by
 refine aW U λb β hb hG=>?_
 refine xP ?_
 intro b3
 refine bw (LG S D x d) ?_
 rintro u B ⟨B1,PR,rfl⟩
 rw[bT]
 refine xS ?_
 refine bw (tq IS _ u B1 PR he.1 he.2) ?_
 rintro _ _ ⟨rfl,rfl⟩
 refine xD ?_
 exact xR
def wD(l:List Bs):Bs:=[107,101,121,115]++l.flatMap λk=>32::iV k
def F6(l:List (Bs×Bs)):Bs:=[97,108,108]++l.flatMap λx=>32::(iV x.1++32::iV x.2)
theorem YJ:
 TR ab GG 108 #[au S,.agg #[ao w,.slice a nn c,.slice na nn nc]] [dX (S,D,0) x,bM D d] (cb λu B=>u=ao ([108,97,115,116,32]++gT x.last.toNat)/\B=[dX (S,D,0) x,bM D d]):=by
 refine aW U λb β hb hG=>?_
 refine xP ?_
 intro b3
 refine bw (OK GG S D x) ?_
 rintro u B ⟨rfl,rfl⟩
 refine xD ?_
 refine xJ (zq x.last) ?_
 have hl:=CA x.last
 exact xR
end
section
variable {S D B:Nat}{x:fJ}{d:be}{w:Bs}{a na:Option Addr}{c n nn nc:Nat}{sv:Value}
theorem sj{α:Type}(f:α->Bs)(K:Nat):∀l:List α,(∀y∈l,(f y).length<=K)->(l.flatMap f).length<=l.length*K
 |[],_=>by simp
 |y::r,h=>by
  have h1:=h y nH
  have h2:=sj f K r λz hz=>h z (by simp[hz])
  grind [fP]
theorem Ur{P:Program}{b:Frame}{β:bS}{k:Kt}{E:Env}{Hs:List az}{R:Ending->List az->Prop}{cc:Option (Array Oper×List Oper)}{α:Type}(Re:Rp α)(sz:Nat)(h:X P b β cc k E (bV Re sz none []::Hs) R):X P b β cc k E Hs R:=
 X.cd (Hs':=bV Re sz none []::Hs) (λ_ o hs=>⟨fL,o,cR _,cJ _,.refl _,λ_ _=>.inl U,hs⟩) h
theorem YK(gE:dI x.dir<=1000000000)(hkn:x.keys.length<=1000000000)(hk:∀k∈x.keys,k.length<=100000000):
 TR ab GG 106 #[au S,.agg #[ao w,.slice a n c,.slice na nn nc]] [dX (S,D,0) x,bM D d] (cb λu B=>u=ao (wD x.keys)/\B=[dX (S,D,0) x,bM D d]):=by
 refine aW U λb β hb hG=>?_
 refine xP ?_
 intro b3
 refine bw (xp S D x gE) ?_
 rintro _ _ ⟨ak,ck,rfl,rfl⟩
 have hke:(if x.closed=true then[]else x.dir.keys)=x.keys:=U
 rw[hke]
 dsimp only[ae,ai,ah]
 generalize x.keys=K at*
 refine dE ak (λk:Bs=>[ao k]) K U U (λ_=>rfl) λ_=>?_
 have pN:∀i,((K.take i).flatMap λk=>32::iV k).length<=K.length*300000002:=λi=>by
  refine aj (sj _ 300000002 _ λy hy=>?_) (cX _ bE)
  grind [kl]
 refine xS ?_
 refine X.loop (ι:={z:Nat // z<=K.length}) (λz=>([(5,ao (wD (K.take z.1))),(9,.slice ak K.length ck),(10,aX K.length),(11,aX z.1)],[bV RS 1 ak K,dX (S,D,0) x,bM D d])) (λz=>K.length - z.1)
  ⟨0,al _⟩ (Sub.of U) ay ?_
 rintro⟨i,hi⟩ ih
 dsimp only at hi ⊢
 refine xB ?_ ?_<;>intro h
 ·have hi:i<K.length:=by grind
  have ht:wD (K.take (i+1))=wD (K.take i)++([32]++iV K[i]):=by grind [wD,dd]
  have Ud:=hk _ (aB hi);have ih:=ih ⟨i+1,by omega⟩ bE;dsimp only at ih;rw[ht]at ih;have hac:(wD (K.take i)).length<=K.length*300000002+4:=by grind [wD]
  generalize wD (K.take i)=acc at*;refine xS ?_;refine cH U U U U U hi U λbl o=>?_;generalize K[i]=key at*;have NN:=kl key;refine xJ (oy key av) ?_;generalize iV key=tk at*;refine xS ?_;refine xS ?_;exact X.W ih
 ·have hi:i=K.length:=by grind
  subst hi;rw[bh];exact xR
theorem aq8(gE:dI x.dir<=1000000000)(tJ:∀k,LD (x.dir.get k).1.place)(hkn:x.keys.length<=1000000000)(han:(x.all d).1.length<=1000000000)(hk:∀y∈(x.all d).1,y.1.length<=100000000/\y.2.length<=100000000):
 TR ab GG 107 #[au S,.agg #[ao w,.slice a n c,.slice na nn nc]] [dX (S,D,0) x,bM D d] (cb λu B=>u=ao (F6 (x.all d).1)/\B=[dX (S,D,0) x,bM D (x.all d).2]):=by
 refine aW U λb β hb hG=>?_
 have hit:=λp=>ap4 p S D x d gE tJ hkn
 generalize x.all d=r at*
 obtain⟨L,d1⟩:=r
 dsimp only at hit han hk ⊢
 have pN:∀l:List (Bs×Bs),(∀y∈l,y∈L)->l.length<=L.length->(F6 l).length<=L.length*700000000+3:=λl hl Fj=>by
  unfold F6;rw[aG];have:=sj (λx:Bs×Bs=>32::(iV x.1++32::iV x.2)) 700000000 l λy hy=>by
   have h1:=kl y.1;have h2:=kl y.2;have h3:=hk y (hl y hy);exact bF2
  have h4:=cX 700000000 Fj;simp only[ax,aR];omega
 refine xP ?_
 intro b3
 refine xA ?_
 intro b5
 refine bw (Tp GG S) ?_
 rintro _ _ ⟨p,rfl,rfl⟩
 refine xD ?_
 refine QZ hG hb (hit p) U (λpre=>[bx b5 9 [ao (F6 pre)]]) [bx b5 9 [ao [97,108,108]]] U (λ_=>rfl) de ?_ ?_
 ·intro b' β' l' r pre y post hx lC yy hr;have ub:F6 (pre++[y])=F6 pre++([32]++iV y.1++[32]++iV y.2):=by unfold F6;rw[List.flatMap_append];simp
  have hac:=pN pre (λz hz=>by rw[hx];simp[hz]) (by rw[hx,aG];omega);have Kf:=hk y (by rw[hx];simp);rw[ub];generalize F6 pre=acc at*;obtain⟨k,v⟩:=y;have NN:=kl k;have htv:=kl v;dsimp only[yx]at Kf NN htv ⊢;refine xS ?_;refine qg lC hr (xS ?_);refine nR [0,1,3,4,5,7,8] [1] ?_;refine xL [0,1,5] ?_;refine xS ?_;refine vn yy (oy k av) U U U ?_;generalize iV k=tk at*;refine xS ?_;apply cW [3,4] U U U
  ·intro p hp;refine xS ?_;exact aI7
  ·rfl
  ·rfl
  refine xS ?_;refine vn yy (oy v av) U U U ?_;generalize iV v=tv at*;refine xS ?_;exact ll lC
 ·intro D2;refine xD ?_;exact yg hb (.tmps U) ⟨_,⟨U,U⟩,ay⟩
theorem YL(hk:k<=1000000000):
 TR ab GG 110 #[au B,.agg #[ao w,.slice a n c,.slice na 1 nc]] [bx B 53 [au D,sv],bM D d,bV RN 1 na [k]] (cb λu C=>u=ao (gF (d.fail k).2)/\C=[bx B 53 [au D,sv],bM D (d.fail k).1]):=by
 refine aW U λb β hb hG=>?_
 have he:F5 (d.fail k).2:=by grind [be.fail,F5]
 refine kB na 0 nH λbl o ha=>?_
 subst ha
 rw[show[k][0]=k from rfl]
 refine xP ?_
 intro b3
 refine eR 8 [2,0,1] ?_
 apply cW [0,1,2,3,4,5,6,7] U U U
 ·exact Lx
 ·rfl
 ·rfl
 refine xE (Xj GG D d k av) ?_
 refine xJ (mo _ he.1 he.2) ?_
 exact xR
@[reducible] def tw:Bs:=[98,101,104,105,110,100]
theorem TG(hk:k<=1000000000)(t:Bs):
 TR ab GG 112 #[au B,.agg #[ao w,.slice a 1 c,.slice na 1 nc]] [bx B 53 [au D,sv],bM D d,bV RS 1 a [t],bV RN 1 na [k]] (cb λu C=>u=ao (gF (d.break k (t==tw)).2)/\C=[bx B 53 [au D,sv],bM D (d.break k (t==tw)).1]):=by
 refine aW U λb β hb hG=>?_
 have he:F5 (d.break k (t==tw)).2:=by grind [be.break,F5]
 refine kB na 0 nH λbl o ha=>?_
 subst ha
 rw[show[k][0]=k from rfl]
 refine kB a 0 nH λbt p ha=>?_
 subst ha
 rw[show[t][0]=t from rfl]
 refine xP ?_
 intro b3
 refine eR 13 [3,0,2,1] ?_
 apply cW [0,1,2,3,4,5,6,7,8,9,10,11,12] U U U
 ·intro p hp;refine xS ?_;refine du (j:=0) U U U U U av (xS ?_);exact bF3
 ·rfl
 ·rfl
 refine xE (Sy GG D d k (t==tw) av) ?_
 refine xJ (mo _ he.1 he.2) ?_
 exact xR
theorem YM(hu:d.used<=4194304):
 TR ab GG 117 #[au B,.agg #[ao w,.slice a n c,.slice na nn nc]] [bx B 53 [au D,sv],bM D d] (cb λu C=>u=ao ([117,115,101,100,32]++gK d.used)/\C=[bx B 53 [au D,sv],bM D d]):=by
 refine aW U λb β hb hG=>?_
 refine xP ?_
 intro b3
 refine bw (Xi GG D d) ?_
 rintro _ _ ⟨rfl,rfl⟩
 refine xD ?_
 refine xJ (vz d.used av av) ?_
 have hl:=dG (d.used:Int) av av
 exact xR
theorem TH:
 TR ab GG 113 #[au B,.agg #[ao w,.slice a n c,.slice na 1 nc]] [bx B 53 [au D,sv],bM D d,bV RN 1 na [k]] (cb λu C=>u=ao [111,107]/\C=[bx B 53 [au D,.pointer none],bM D (d.ji k)]):=by
 refine aW U λb β hb hG=>?_
 refine kB na 0 nH λbl o ha=>?_
 subst ha
 rw[show[k][0]=k from rfl]
 refine xP ?_
 intro b3
 refine eR 8 [0,1,2] ?_
 apply cW [0,1,2,3,4,5,6,7] U U U
 ·exact Lx
 ·rfl
 ·rfl
 refine xE (Sx GG D d k) ?_
 refine xJ (mo 0 av av) ?_
 exact xR
def AM(B:Nat)(D0:Nat)(sv:Value)(d0:be)(p:Option be×Int)(C:List az):Prop:=match p with
 |(some d1,0)=>∃D1,C=[bx B 53 [au D1,.pointer none],bM D1 d1]
 |_=>C=[bx B 53 [au D0,sv],bM D0 d0]
theorem YN(hk:k<=1000000000):
 TR ab GG 97 #[au B,.agg #[ao w,.slice a n c,.slice na 1 nc]] [bx B 53 [au D,sv],bM D d,bV RN 1 na [k]] (cb λu C=>u=ao (gF (oT k []).2)/\AM B D sv d (oT k []) C):=by
 refine aW U λb β hb hG=>?_
 refine kB na 0 nH λbl o ha=>?_
 subst ha
 rw[show[k][0]=k from rfl]
 have JP:oT k []=(none,70)\/∃s,oT k []=(some s,0):=by
  grind [oT,laid,gf]
 refine xP ?_
 intro b3
 refine du (j:=0) U U U U U av (xS ?_)
 refine Ur BY 2 ?_
 refine bw (Iq GG k none 0 0 [] U de nH) ?_
 rcases JP with hn|⟨s,hn⟩
 ·exact aC0
 ·exact aO1
end
def tT(f:bn):Bs:=32::(iV f.name++32::gK f.data.length)
def pw(l:List bn):Bs:=[102,105,108,101,115]++l.flatMap tT
def vf(n:Bs):List bn->Bs
 |[]=>gF 71
 |f::r=>if f.name=n then[61,32]++iV f.data else vf n r
section
variable {S D B:Nat}{x:fJ}{d:be}{w:Bs}{a na:Option Addr}{c n nn nc:Nat}{sv:Value}
theorem TI(hl:d.files.length<=100000000000):
 TR ab GG 115 #[au B,.agg #[ao w,.slice a n c,.slice na nn nc]] [bx B 53 [au D,sv],bM D d] (cb λu C=>u=ao (pw d.all)/\C=[bx B 53 [au D,sv],bM D d]):=by
 refine aW U λb β hb hG=>?_
 refine tE D λdp=>?_
 refine xP ?_
 intro b3
 refine bw (lW GG D d av) ?_
 rintro _ _ ⟨af,cf,rfl,rfl⟩
 dsimp only[ae,ai,ah]
 have ub:=oG d
 have wI:=λf hf=>(@sZ d dp f hf)
 refine pE af cf (l:=d.all) λq hq Z7 Ms=>?_
 rw[<-hq]at ub wI ⊢
 simp only[aA]at ub ⊢
 have v8:∀y∈q,y.1.name.length<=1000/\y.1.data.length<=4194304:=λy hy=>by
  have:=wI y.1 (bj.2 ⟨y,hy,U⟩);exact⟨jT this.1,this.2.1⟩
 have hac:∀i,(pw ((q.take i).map (·.1))).length<=q.length*4000+5:=λi=>by
  unfold pw;rw[aG];have:=sj tT 4000 ((q.take i).map (·.1)) λf hf=>by
   obtain⟨y,hy,rfl⟩:=bj.1 hf;have h1:=v8 y (List.mem_of_mem_take hy);have h2:=kl y.1.name;have h3:=dG (y.1.data.length:Int) av av;unfold tT;exact bF2
  have h4:((q.take i).map (·.1)).length<=q.length:=Dl;have h5:=cX 4000 h4;simp only[ax,aR];omega
 refine xS ?_
 refine X.loop (ι:={z:Nat // z<=q.length}) (λz=>([(5,ao (pw ((q.take z.1).map (·.1)))),(12,.slice af q.length cf),(13,aX q.length),(14,aX z.1)],[bV (bp bG) 2 af q,bx B 53 [au D,sv],bM D d])) (λz=>q.length - z.1)
  ⟨0,al _⟩ (Sub.of U) ay ?_
 rintro⟨i,hi⟩ ih
 dsimp only at hi ⊢
 refine xB ?_ ?_<;>intro h
 ·have hi:i<q.length:=by simp at h;omega
  have ht:pw ((q.take (i+1)).map (·.1))=pw ((q.take i).map (·.1))++([32]++iV q[i].1.name++[32]++gK q[i].1.data.length):=by unfold pw;rw[dd hi,cq,List.flatMap_append];simp[tT]
  have Kf:=v8 _ (aB hi);have ih:=ih ⟨i+1,by omega⟩ gm;dsimp only at ih;rw[ht]at ih;have hac:=hac i;generalize pw ((q.take i).map (·.1))=acc at*;refine xS ?_;refine cH U U U U U hi U λbl o=>?_;generalize q[i]=y at*;obtain⟨⟨nm,dt⟩,ya,yc⟩:=y;have NN:=kl nm;dsimp only at Kf ih ⊢;refine xS ?_;refine dF U U U U  ?_;refine xA ?_;intro b7;refine nR [0,1,2,4,5,6,7,8,10,11] [0] ?_;refine xL [0,1,2,6,7,8] ?_;refine xJ (oy nm av) ?_;generalize iV nm=tk at*;refine xS ?_;refine xL [4,5] ?_;refine xS ?_;have hil:=dG (dt.length:Int) av av;refine xJ (vz dt.length av av) ?_;generalize gK dt.length=ti at*;refine xS ?_;exact X.W ih
 ·have hi:i=q.length:=by simp at h;omega
  subst hi;rw[bh];exact xR
theorem TJ(hl:d.files.length<=100000000000):
 TR ab GG 116 #[au B,.agg #[ao w,.slice a 1 c,.slice na nn nc]] [bx B 53 [au D,sv],bM D d,bV RS 1 a [t]] (cb λu C=>u=ao (vf t d.all)/\C=[bx B 53 [au D,sv],bM D d]):=by
 refine aW U λb β hb hG=>?_
 refine tE D λdp=>?_
 refine kB a 0 nH λbt ot ha=>?_
 subst ha
 rw[show[t][0]=t from rfl]
 refine xP ?_
 intro b3
 refine bw (lW GG D d av) ?_
 rintro _ _ ⟨af,cf,rfl,rfl⟩
 dsimp only[ae,ai,ah]
 have ub:=oG d
 have wI:=λf hf=>(@sZ d dp f hf)
 refine pE af cf (l:=d.all) λq hq Z7 Ms=>?_
 rw[<-hq]at ub wI ⊢
 simp only[aA]at ub ⊢
 have v8:∀y∈q,y.1.name.length<=1000/\y.1.data.length<=4194304:=aZ8
 have bu:vf t (q.map (·.1))=vf t ((q.map (·.1)).drop 0):=U
 generalize vf t (q.map (·.1))=res at*
 refine xS ?_
 refine X.loop (ι:={z:Nat // z<=q.length/\res=vf t ((q.map (·.1)).drop z)}) (λz=>([(3,au b3),(11,.slice af q.length cf),(12,aX q.length),(13,aX z.1)],[bx b3 60 [ao w,.slice (some ⟨bt,ot,none⟩) 1 c,.slice na nn nc],el RS 1 bt (ot+0*1) t,bV (bp bG) 2 af q,dz bn.data q,bx B 53 [au D,sv],bM D d])) (λz=>q.length - z.1)
  ⟨0,al _,bu⟩ (Sub.of U) ay ?_
 clear bu
 rintro⟨i,hi,bu⟩ ih
 dsimp only at hi bu ⊢
 refine xB ?_ ?_<;>intro h
 ·have hi:i<q.length:=by grind
  rw[aP bE,vf,ft]at bu;have Kf:=v8 _ (aB hi);have hym:=aB hi;refine xS ?_;refine cH U U U U U hi U λbl o=>?_;generalize q[i]=y at*;obtain⟨⟨nm,dt⟩,ya,yc⟩:=y;have NN:=kl dt;dsimp only at Kf bu ⊢;refine xS ?_;refine dF U U U U  ?_;refine xA ?_;intro b6;refine eR 7 [0,2,3] ?_;apply cW [0,1,2,3,4,5,6] U U U
  ·exact Lx
  ·rfl
  ·rfl
  refine xS ?_;by_cases hc:nm=t
  ·subst hc;rw[if_pos U]at bu;refine aM 23 true U nH (xS ?_);refine oI (data:=bn.data) q ((⟨nm,dt⟩,ya,yc):WB bn) hym λjz mD=>?_;dsimp only at jz mD ⊢;refine xJ (oy dt av) ?_;exact aN0
  ·rw[if_neg hc]at bu;refine aM 23 false U bE (xS ?_);exact X.W (ih ⟨i+1,by omega,bu⟩ bE)
 ·have hi:i=q.length:=by grind
  subst hi;rw[bc nH,vf]at bu;refine xJ (mo 71 av av) ?_;exact aN0
end
@[reducible] def kC:Bs:=[102,97,115,116]
def BJ(r:Except Int (fJ×Z8)):Bs:=match r with
 |.error e=>gF e
 |.ok z=>[111,107,32]++gK z.1.keys.length++[32]++gT z.2.top.toNat++[32]++gK z.2.bz++[32]++gK z.2.cD
def OS(B D:Nat)(r:be×Except Int (fJ×Z8))(C:List az):Prop:=match r.2 with
 |.error _=>C=[bx B 53 [au D,.pointer none],bM D r.1]
 |.ok z=>∃S,C=[bx B 53 [au D,au S],dX (S,D,0) z.1,bM D r.1]
@[reducible] def aq9(r:(Option Addr×Nat×Nat)×Int×Int×Int):List Value:=[.slice r.1.1 r.1.2.1 r.1.2.2,.int .u64 r.2.1,.int .i64 r.2.2.1,.int .i64 r.2.2.2]
theorem tm.shape{D:Nat}{r:be×Except Int (fJ×Z8)}{v:Value}{C:List az}(h:tm D r v C):∃p rp e,v=.tuple #[p,.agg (aq9 rp).toArray,e]/\tm D r (.tuple #[p,.agg (aq9 rp).toArray,e]) C:=by
 unfold tm at h;split at h
 ·obtain⟨h1,p,rfl,rfl⟩:=h;rename_i e he;exact⟨_,((none,0,0),0,0,0),_,U,by grind [tm]⟩
 ·obtain⟨S,fa,fn,fc,rfl,rfl⟩:=h;rename_i z hz;exact⟨_,((fa,fn,fc),_,_,_),_,U,by grind [tm]⟩
theorem pU(p:az)(F:List az):aN (p::F) F:=(di (cG (l₁:=[p]) (l₂:=F))).trans (fN F [p])
section
variable {S D B:Nat}{x:fJ}{d:be}{w:Bs}{a na:Option Addr}{c n nn nc:Nat}{sv:Value}
theorem YO(k1 k2:Nat)(h1:k1<=1000000000)(h2:k2<=1000000000)(hl:d.files.length<=50000000000)(pz:∀m,fI d.all d.cap []=.ok m->(d.ml m.steps).1.files.length<=100000000000)(hl3:(kY d (t==kC)).1.files.length<=100000000000)(hz:∀z,(gR d k1 k2 (t==kC)).2=.ok z->dI z.1.dir<=1000000000/\z.1.keys.length<=1000000000/\z.2.bz<=1000000000000000000/\z.2.cD<=1000000000000000000)(hee:∀e,(gR d k1 k2 (t==kC)).2=.error e->F5 e):
 TR ab GG 98 #[au B,.agg #[ao w,.slice a 1 c,.slice na 2 nc]] [bx B 53 [au D,sv],bM D d,bV RS 1 a [t],bV RN 1 na [k1,k2]] (cb λu C=>u=ao (BJ (gR d k1 k2 (t==kC)).2)/\OS B D (gR d k1 k2 (t==kC)) C):=by
 refine aW U λb β hb hG=>?_
 refine kB a 0 nH λbt ot ha=>?_
 subst ha
 refine kB na 0 nH λbl o ha=>?_
 subst ha
 refine kB (some ⟨bl,o,none⟩) 1 nH λbl' o' ha=>?_
 cases ha
 rw[show[t][0]=t from rfl,show[k1,k2][0]=k1 from rfl,show[k1,k2][1]=k2 from rfl]
 have hT:=OO D d k1 k2 (t==kC) hl pz hl3
 generalize gR d k1 k2 (t==kC)=res at*
 refine xP ?_
 intro b3
 refine jI (ι:={z:Nat×Value×((Option Addr×Nat×Nat)×Int×Int×Int)×Value×List az // tm D res (.tuple #[z.2.1,.agg (aq9 z.2.2.1).toArray,z.2.2.2.1]) z.2.2.2.2}) (λz=>([(0,au B),(5,z.1.2.1),(6,au z.1.1),(7,z.1.2.2.2.1)],bx z.1.1 89 (aq9 z.1.2.2.1)::bx B 53 [au D,sv]::z.1.2.2.2.2)) ?fin ?main
 case main=>
  intro KK dW
  refine nR [0,1,2,3,4,5,6,7,8,9,10,11,12,13,14,15,16,17,19,20,21,22] [4,0,3,2,1] ?_
  apply cW [0,1,2,3,4,5,6,7,8,9,10,11,12,13,14,15,16,17] U U U
  ·intro p hp;refine xS ?_;refine du (j:=0) U U U U U av (xS ?_);refine du (j:=1) U U U U U av (xS ?_);refine Pr (hf:=C2.there _ _ _ _ _ _ _ (h:=C2.there _ _ _ _ _ _ _ (h:=C2.there _ _ _ _ _ _ _ (h:=C2.there _ _ _ _ _ _ _ (h:=C2.here _ _ _ _ _ _))))) U U U iA (xS ?_);exact bF3
  ·rfl
  ·rfl
  refine dA U U U U U ?_ ?_
  ·skip
   refine bw hT ?_
   rintro v C hO
   obtain⟨p,⟨⟨fa,fn,fc⟩,m1,m2,m3⟩,e,rfl,hO⟩:=hO.shape
   dsimp only at hO ⊢
   refine X.cd (di cG) (xD ?_)
   refine xL [19,20,21,22] ?_
   refine xA ?_
   intro b6
   exact bq1
  ·refine xA ?_;intro b6;refine bw hT ?_;rintro v C hO;obtain⟨p,⟨⟨fa,fn,fc⟩,m1,m2,m3⟩,e,rfl,hO⟩:=hO.shape;dsimp only at hO ⊢;refine X.cd (di cG) (xD ?_);refine xL [20,21,22] ?_;refine xS ?_;exact bq1
 case fin=>
  rintro⟨⟨b6,p,⟨⟨fa,fn,fc⟩,m1,m2,m3⟩,e,C⟩,hO⟩;dsimp only at hO ⊢;unfold tm at hO;obtain⟨d1,rr⟩:=res;cases rr with
  |error er=>
   obtain⟨me,q,hv,rfl⟩:=hO;cases hv;have XM:=hee er U;refine xS ?_;refine pg U U U U U  ?_;refine xE (tq LJ er _ _ (.inr ⟨me,q,U,U⟩) XM.1 XM.2) ?_;exact xR
  |ok z=>
   obtain⟨S,fa',fn',fc',hv,rfl⟩:=hO;cases hv;obtain⟨Gn,YU,hz3,hz4⟩:=hz z U;refine xS ?_;refine pg U U U U U (xS ?_);refine fM (uC [0,2,4,5,6,7,9,10,11,12,14,15,16,17,19]) [bx b6 89 [.slice fa fn fc,.int .u64 z.2.top.toNat,.int .i64 z.2.bz,.int .i64 z.2.cD]] U ?_;refine xL [0,6,7,11,12,16,17] ?_;refine xS ?_;refine bw (xp S D z.1 Gn) ?_;rintro _ _ ⟨ak,ck,rfl,rfl⟩;have hke:(if z.1.closed=true then[]else z.1.dir.keys)=z.1.keys:=U;rw[hke];refine xD ?_;have l1:=dG (z.1.keys.length:Int) av av;have l2:=CA z.2.top;have l3:=dG (z.2.bz:Int) av av;have l4:=dG (z.2.cD:Int) av av;have hob:BJ (.ok z)=[111,107,32]++gK z.1.keys.length++[32]++gT z.2.top.toNat++[32]++gK z.2.bz++[32]++gK z.2.cD:=U;rw[hob];refine xJ (vz z.1.keys.length av av) ?_;generalize gK z.1.keys.length=i1 at*;refine xS ?_;refine xL [4,5] ?_;refine xJ (zq z.2.top) ?_;generalize gT z.2.top.toNat=i2 at*;refine xS ?_;refine xL [9,10] ?_;refine xJ (vz z.2.bz av av) ?_;generalize gK z.2.bz=i3 at*;refine xS ?_;refine xL [14,15] ?_;refine xJ (vz z.2.cD av av) ?_;generalize gK z.2.cD=i4 at*;refine xS ?_;exact bO hb (.tmps U) ⟨U,S,U⟩
end
end
end Go.Proofs
namespace Go.Sl
section
variable {P:Program}{b:Frame}{β:bS}{k:Kt}{N:Nat}{vs:List (Nat×Value)}{ds:List Deferred}{Hs:List az}{R:Ending->List az->Prop}{ops:Array Oper}{rest:List Oper}
variable {d ty:Nat}{pos:String}{af:Array Edge}{g:Option (Nat×Bool)}
theorem be1{t e sz h n c:Nat}{a:Option Addr}{x:Operand}{high:Option Operand}[ht:px P t e][hz:iI P e sz](hw:aJ ops vs ⟨some d,.slice t x none high none,ty,pos,af,g⟩=some true)(hn:aH d N=true)(hx:eo vs x=some (.slice a n c))
 (hh:Bd vs n high h)(h2:h<=n)(oM:n<=c)
 (hk:X P b β (some (ops,rest)) k ⟨N,(d,.slice a h c)::vs,ds⟩ Hs R):X P b β (some (ops,⟨some d,.slice t x none high none,ty,pos,af,g⟩::rest)) k ⟨N,vs,ds⟩ Hs R:=
 X.val (v:=.slice a h c) U hn hw (λact w he hs=>by
  have e1:=aO he hx;have e3:=nV (P:=P) (w:=w) he (isS:=true) (cap:=c) Bd.no hh (al h) av;have e4:∀p:Addr,Addr.add p 0=p:=λp=>rfl;simp only[Option.map_none]at e3;simp[execOp,e1,Instr.sliceAt,Instr.slice,bC ht.out,e3,iR hz.out];intro _;cases a with
  |none=>rfl
  |some p=>rfl) hk
end
end Go.Sl
namespace Go.Proofs
open Go.Sl
set_option maxRecDepth 8000
def IY(l:List bn)(n:Bs):Option bn:=l.find? (·.name=n)
def OT(l:List bn)(f:bn):List bn:=match l.findIdx? (·.name=f.name)with|some i=>l.set i f|none=>l++[f]
def ar0(l:List bn)(n:Bs):List bn:=match l.findIdx? (·.name=n)with|some i=>l.eraseIdx i|none=>l
inductive Dm where
 |lay (n t:Bs)|flip (n:Bs) (k x:Nat)|cut (n:Bs) (k:Nat)|OU (n:Bs)|copy (n m:Bs)|move (n m:Bs)
@[reducible] def Dm.word:Dm->Bs
 |.lay ..=>[108,97,121]|.flip ..=>[102,108,105,112]|.cut ..=>[99,117,116]|.OU ..=>[108,111,115,101]|.copy ..=>[99,111,112,121]|.move ..=>[109,111,118,101]
@[reducible] def Dm.texts:Dm->List Bs
 |.lay n t=>[n,t]|.flip n _ _=>[n]|.cut n _=>[n]|.OU n=>[n]|.copy n m=>[n,m]|.move n m=>[n,m]
@[reducible] def Dm.gx:Dm->List Nat
 |.flip _ k x=>[k,x]|.cut _ k=>[k]|_=>[]
@[reducible] def Dm.name:Dm->Bs
 |.lay n _=>n|.flip n _ _=>n|.cut n _=>n|.OU n=>n|.copy n _=>n|.move n _=>n
def sk(l:Bs)(k x:Nat):Bs:=l.set k (l.getD k 0^^^cu x)
def Dm.ref(m:Dm)(o:Option Bs):Int:=match m with
 |.lay ..=>0
 |.flip _ k _=>(match o with|none=>71|some d=>if d.length<=k then 70 else 0)
 |.cut _ k=>(match o with|none=>71|some d=>if d.length<k then 70 else 0)
 |_=>(match o with|none=>71|some _=>0)
def Dm.files(m:Dm)(l:List bn)(d:Bs):List bn:=match m with
 |.lay n t=>OT l ⟨n,t⟩
 |.flip n k x=>OT l ⟨n,sk d k x⟩
 |.cut n k=>OT l ⟨n,d.take k⟩
 |.OU n=>ar0 l n
 |.copy _ m=>OT l ⟨m,d⟩
 |.move n m=>OT (ar0 l n) ⟨m,d⟩
def zw(l:List bn):List bn:=(sortStr (l.map (·.name))).map λn=>(IY l n).getD ⟨n,[]⟩
def Dm.do(m:Dm)(d:be):Option be×Int:=
 if m.ref ((IY d.all m.name).map (·.data))≠0 then(none,m.ref ((IY d.all m.name).map (·.data)))else oT d.cap (zw (m.files d.all (((IY d.all m.name).map (·.data)).getD [])))
@[reducible] def bn.val(y:WB bn):Value:=.slice y.2.1 y.1.data.length y.2.2
def Mq(q:List (WB bn)):List (Bs×Value):=q.map λy=>(y.1.name,bn.val y)
def kT(q:List (WB bn))(n:Bs):Option (WB bn):=q.find? (·.1.name=n)
def pT(q:List (WB bn))(y:WB bn):List (WB bn):=match q.findIdx? (·.1.name=y.1.name)with|some i=>q.set i y|none=>q++[y]
def AN(q:List (WB bn))(n:Bs):List (WB bn):=match q.findIdx? (·.1.name=n)with|some i=>q.eraseIdx i|none=>q
theorem YP(q:List (WB bn))(n:Bs):fB (Mq q) n=(kT q n).map bn.val:=by
 unfold fB Mq kT;rw[List.find?_map];have e:((λx:Bs×Value=>decide (x.1=n))∘λy:WB bn=>(y.1.name,bn.val y))=λx:WB bn=>decide (x.1.name=n):=U;rw[e];cases List.find? (λx:WB bn=>decide (x.1.name=n)) q<;>rfl
theorem EN(q:List (WB bn))(y:WB bn):gJ (Mq q) y.1.name (bn.val y)=Mq (pT q y):=by
 unfold gJ Mq pT
 rw[List.findIdx?_map]
 have e:((λx:Bs×Value=>decide (x.1=y.1.name))∘λy:WB bn=>(y.1.name,bn.val y))=λx:WB bn=>decide (x.1.name=y.1.name):=U
 grind [eZ]
theorem YR(q:List (WB bn))(n:Bs):tW (Mq q) n=Mq (AN q n):=by
 unfold tW Mq AN
 rw[List.findIdx?_map]
 have e:((λx:Bs×Value=>decide (x.1=n))∘λy:WB bn=>(y.1.name,bn.val y))=λx:WB bn=>decide (x.1.name=n):=U
 grind [map_eraseIdx]
theorem LO(q:List (WB bn))(n:Bs):(kT q n).map (·.1)=IY (q.map (·.1)) n:=by
 unfold kT IY;rw[List.find?_map];rfl
theorem vg(q:List (WB bn))(y:WB bn):(pT q y).map (·.1)=OT (q.map (·.1)) y.1:=by
 unfold pT OT
 rw[List.findIdx?_map]
 have e:((λx:bn=>decide (x.name=y.1.name))∘λy:WB bn=>y.1)=λx:WB bn=>decide (x.1.name=y.1.name):=U
 grind [eZ]
theorem LP(q:List (WB bn))(n:Bs):(AN q n).map (·.1)=ar0 (q.map (·.1)) n:=by
 unfold AN ar0
 rw[List.findIdx?_map]
 have e:((λx:bn=>decide (x.name=n))∘λy:WB bn=>y.1)=λx:WB bn=>decide (x.1.name=n):=U
 grind [map_eraseIdx]
theorem nE{q:List (WB bn)}{y x:WB bn}(h:x∈pT q y):x∈q\/x=y:=by
 grind [pT]
theorem zx{q:List (WB bn)}{n:Bs}{x:WB bn}(h:x∈AN q n):x∈q:=by
 grind [AN,List.mem_of_mem_eraseIdx]
theorem vh(q:List (WB bn))(y:WB bn):(pT q y).length<=q.length+1:=by
 grind [pT]
theorem LQ(q:List (WB bn))(n:Bs):(AN q n).length<=q.length:=by
 grind [AN]
section
variable {a na da:Option Addr}{c n nn nc dl dc:Nat}
theorem ar1(m:Dm)(o:Option Bs)(ho:∀s,o=some s->s.length=dl):
 TR ab GG 160 #[.agg #[ao m.word,.slice a n c,.slice na m.gx.length nc],.slice da dl dc,.bool o.isSome] [bV RN 1 na m.gx] (cb λu C=>u=.int .i64 (m.ref o)/\C=[]):=by
 refine jr U λb β hb hG=>?_
 cases m with
 |lay nm t=>
  refine xP ?_
  intro b3
  exact xR
 |flip nm k x=>
  refine kB na 0 (by simp) λbl p ha=>?_
  subst ha
  rw[show(Dm.flip nm k x).gx[0]=k from rfl]
  cases o with
  |none=>
   refine xP ?_
   intro b3
   exact xR
  |some s=>
   have hs:=ho s U
   refine xP ?_
   intro b3
   refine du (j:=0) U U U U U (by simp) (xS ?_)
   by_cases hc:s.length<=k
   ·refine aM 14 true U (by simp;omega) (xS ?_)
    exact bO hb (.tmps U) ⟨by simp only[Dm.ref];rw[if_pos hc];rfl,U⟩
   ·refine aM 14 false U (by simp;omega) (xS ?_)
    exact bO hb (.tmps U) ⟨by simp only[Dm.ref];rw[if_neg hc];rfl,U⟩
 |cut nm k=>
  refine kB na 0 (by simp) λbl p ha=>?_
  subst ha
  rw[show(Dm.cut nm k).gx[0]=k from rfl]
  cases o with
  |none=>
   refine xP ?_
   intro b3
   exact xR
  |some s=>
   have hs:=ho s U
   refine xP ?_
   intro b3
   refine du (j:=0) U U U U U (by simp) (xS ?_)
   by_cases hc:s.length<k
   ·refine aM 14 true U (by simp;omega) (xS ?_)
    exact bO hb (.tmps U) ⟨by simp only[Dm.ref];rw[if_pos hc];rfl,U⟩
   ·refine aM 14 false U (by simp;omega) (xS ?_)
    exact bO hb (.tmps U) ⟨by simp only[Dm.ref];rw[if_neg hc];rfl,U⟩
 |OU nm=>
  cases o with
  |none=>
   refine xP ?_
   intro b3
   exact xR
  |some s=>
   refine xP ?_
   intro b3
   exact xR
 |copy nm t=>
  cases o with
  |none=>
   refine xP ?_
   intro b3
   exact xR
  |some s=>
   refine xP ?_
   intro b3
   exact xR
 |move nm t=>
  cases o with
  |none=>
   refine xP ?_
   intro b3
   exact xR
  |some s=>
   refine xP ?_
   intro b3
   exact xR
end
end Go.Proofs
namespace Go.Proofs
open Go.Sl
set_option maxRecDepth 8000
section
variable{s:be}{cc:Option (Array Oper×List Oper)}{R:Ending->List az->Prop}{fs:List (Bs×bF)}{f:bF}{b:Frame}{Hs F:List az}{E:Env}{β:bS}{k:Kt}{y:WB bn}{r:Bool}{u:Nat}(B:Nat)(q:List (WB bn))(l:List (Bs×bF))(n:Bs)(a:Option Addr)
theorem aR5(c:Nat){l:List bn}[hf:FP Hs (wS a c l) F](h:∀q:List (WB bn),q.map (·.1)=l->X ab b β cc k E (own 70 2 a l.length c (q.flatMap bG)::cV (q.map kP)::F) R):X ab b β cc k E Hs R:=
 jo λw hs=>by
  obtain⟨q,h1⟩:=iX (hs.cd hf.out)
  grind [ln]
theorem zS[hf:FP Hs (cV (q.map kP)) F](h:X ab b β cc k E (dz bn.data q::F) R):X ab b β cc k E Hs R:=
 jo λw hs=>⟨_,CO q F β w ((hs.cd hf.out).cd (gG _ _)),h⟩
theorem YV{q:List (WB bn)}(h:y.1.name∉q.map (·.1.name)):pT q y=q++[y]:=by
 grind [pT]
theorem OV{q:List (WB bn)}(h:(q.map (·.1.name)).Nodup){i:Nat}(hi:i<q.length):q[i].1.name∉(q.take i).map (·.1.name):=by
 grind [cP,eP]
theorem TK{d:be}(h:d.ok):(d.all.map (·.name)).Nodup:=by
 unfold be.all be.told;rw[cz];have e:((λf:bn=>f.name)∘tL d λf=>f.data.length)=id:=by
  grind [tL]
 rw[e,List.map_id];exact(iK _).nodup_iff.2 h.nd
theorem EO(cap:Int)(l:List bn):(oT cap l=(none,70)\/oT cap l=(none,72)\/oT cap l=(none,73))\/∃s,oT cap l=(some s,0):=by
 grind [oT]
theorem vi{q:List (WB bn)}{n:Bs}(h:kT q n=some y):y∈q/\y.1.name=n/\∃i,∃hi:i<q.length,q.findIdx? (λx:WB bn=>decide (x.1.name=n))=some i/\q[i]=y:=by
 grind [kT,List.find?_eq_some_iff_getElem,bA]
theorem bc4{q:List (WB bn)}[hf:zI Hs a (bp bG) 2 q][hs:P1 Hs bn.data q](h:X ab b β cc k E (bV BY 2 a (q.map (·.1))::Hs) R):X ab b β cc k E Hs R:=bc8 bn.data bG a h
@[reducible] def wf(q:List (WB bn))(n:Bs):WB bn:=(kT q n).getD (⟨n,[]⟩,none,0)
theorem ar2:(wf q n).1.name=n:=by
 unfold wf;cases h:kT q n<;>grind [kT]
theorem a47:((kT q n).map bn.val).getD (.slice none 0 0)=bn.val (wf q n):=by
 unfold wf;cases kT q n<;>rfl
theorem a48{q:List (WB bn)}{n:Bs}(h:n∈q.map (·.1.name)):wf q n∈q:=by
 unfold wf;cases hw:kT q n<;>grind [kT]
theorem ar3:((sortStr ((q.map (·.1)).map (·.name))).map (wf q)).map (·.1)=zw (q.map (·.1)):=by
 unfold zw;rw[cz];apply bQ;intro n _;show(wf q n).1=_;unfold wf;rw[<-LO];cases kT q n<;>rfl
theorem a61(i:Nat)(hi:i<q.length)(z:WB bn)(h1:z.1.name=q[i].1.name)(h2:bn.val z=bn.val q[i]):Mq (q.set i z)=Mq q:=by
 unfold Mq
 rw[eZ,h1,h2]
 apply List.ext_getElem nH
 grind
theorem bp6(x:Nat)(h:x<=255):cC.wrap (x:Int)=((cu x).toNat:Int):=by
 have h1:(cu x).toNat=x:=bB
 grind [ic,iW,gy]
theorem ar4(data:Bs)(kk xx:Nat)(hk:kk<data.length):(data.map fO).take (0+kk*1)++[eL cC ((data[kk]^^^cu xx).toNat:Int)]++(data.map fO).drop (0+kk*1+[eL cC ((data[kk]^^^cu xx).toNat:Int)].length)=(sk data kk xx).map fO:=by
 unfold sk;rw[List.set_eq_take_append_cons_drop,if_pos hk,List.getD_eq_getElem?_getD,aV hk,bX,cq,aK,List.map_take,List.map_drop];simp only[aQ,Nat.mul_one,List.length_singleton,bT,List.singleton_append];rfl
section
variable {S D B:Nat}{x:fJ}{d:be}{w:Bs}{a na:Option Addr}{c n nn nc:Nat}{sv:Value}
theorem ar5(m:Dm)(hl:d.files.length<=100000000000)(htx:∀t∈m.texts,t.length<=1000000000)(hnx:∀n k x,m=.flip n k x->x<=255):
 TR ab GG 114 #[au B,.agg #[ao m.word,.slice a m.texts.length c,.slice na m.gx.length nc]] [bx B 53 [au D,sv],bM D d,bV RS 1 a m.texts,bV RN 1 na m.gx] (cb λu C=>u=ao (gF (m.do d).2)/\AM B D sv d (m.do d) C):=by
 refine aW U λb β hb hG=>?_
 refine tE D λdp=>?_
 have ht0:0<m.texts.length:=bE
 have Xz:m.texts[0]'ht0=m.name:=bE
 refine kB a 0 ht0 λbt ot ha=>?_
 subst ha
 rw[Xz]
 refine xP ?_
 intro b3
 refine qR ao U U λbm=>xS ?_
 refine bw (lW GG D d av) ?_
 rintro _ _ ⟨af,cf,rfl,rfl⟩
 dsimp only[ae,ai,ah]
 have ub:=oG d
 have wI:=λf hf=>(@sZ d dp f hf)
 have jd:=TK dp
 have Fy:m.do d=if m.ref ((IY d.all m.name).map (·.data))≠0 then(none,m.ref ((IY d.all m.name).map (·.data)))else oT d.cap (zw (m.files d.all (((IY d.all m.name).map (·.data)).getD []))):=U
 generalize m.do d=res at*
 refine aR5 af cf (l:=d.all) λq hq=>?_
 rw[<-hq]at ub wI jd Fy ⊢
 rw[<-LO]at Fy
 have v8:∀y∈q,y.1.name.length<=1000/\y.1.data.length<=4194304:=aZ8
 rw[cz]at jd
 rw[aA]at ub ⊢
 refine dE af bG q U U (λ_=>rfl) λrH=>xS ?_
 refine X.loop (ι:={z:Nat // z<=q.length}) (λz=>([(0,au B),(3,au b3),(5,.map (some bm)),(22,.slice af q.length cf),(23,aX q.length),(24,aX z.1)],[mp ao bm (Mq (q.take z.1)),bV (bp bG) 2 af q,cV (q.map kP),bx b3 60 [ao m.word,.slice (some ⟨bt,ot,none⟩) m.texts.length c,.slice na m.gx.length nc],bx B 53 [au D,sv],bM D d,el RS 1 bt (ot+0*1) m.name,bV RS 1 (some ⟨bt,ot,none⟩) m.texts,bV RN 1 na m.gx])) (λz=>q.length - z.1)
  ⟨0,al _⟩ (Sub.of U) (show aN _ [mp ao bm [],bV (bp bG) 2 af q,cV (q.map kP),bx b3 60 [ao m.word,.slice (some ⟨bt,ot,none⟩) m.texts.length c,.slice na m.gx.length nc],bx B 53 [au D,sv],bM D d,el RS 1 bt (ot+0*1) m.name,bV RS 1 (some ⟨bt,ot,none⟩) m.texts,bV RN 1 na m.gx]from ay) ?_
 rintro⟨i,hi⟩ ih
 dsimp only at hi ⊢
 refine xB ?_ ?_<;>intro h
 ·have hi:i<q.length:=by grind
  have ih:=ih ⟨i+1,by omega⟩ bE;have ht:pT (q.take i) q[i]=q.take (i+1):=by grind [YV,OV,dd]
  dsimp only at ih;rw[<-ht]at ih;refine xS ?_;refine cH U U U U U hi U λbl o=>?_;generalize q[i]=y at*;refine xS ?_;refine dF U U U U  ?_;refine xA ?_;intro b7;refine qi y.1.name bW U U U U ?_;rw[EN];refine xS ?_;exact X.W ih
 ·have hi:i=q.length:=by grind
  subst hi;rw[bh];refine xS ?_;refine du (j:=0) U U U U U ht0 (xS ?_);refine MO m.name U U U U ?_;rw[YP];have hfound:∀s,(kT q m.name).map (λy=>y.1.data)=some s->s.length=((kT q m.name).map λy=>y.1.data.length).getD 0:=by
   simp_all
  have LR:∃da dc,((kT q m.name).map bn.val).getD (.slice none 0 0)=.slice da (((kT q m.name).map λy=>y.1.data.length).getD 0) dc:=by
   cases kT q m.name<;>simp_all
  have his:((kT q m.name).map bn.val).isSome=((kT q m.name).map λy=>y.1.data).isSome:=bE;rw[his];have YW:res=if m.ref ((kT q m.name).map λy=>y.1.data)≠0 then(none,m.ref ((kT q m.name).map λy=>y.1.data))else oT d.cap (zw (m.files (q.map (·.1)) (((kT q m.name).map λy=>y.1.data).getD []))):=by
   rw[Fy,Option.map_map];rfl
  clear Fy;obtain⟨da,dc,LR⟩:=LR;have wE:=LR;rw[LR];refine xS ?_;refine HB na ?_;refine xE (ar1 m ((kT q m.name).map λy=>y.1.data) hfound) ?_;refine xB ?_ ?_<;>intro hrf
  ·have me:m.ref ((kT q m.name).map λy=>y.1.data)≠0:=by grind
   rw[if_pos me]at YW;have YF:F5 (m.ref ((kT q m.name).map λy=>y.1.data)):=by
    generalize(kT q m.name).map (λy=>y.1.data)=o;unfold F5;cases m<;>cases o<;>simp only[Dm.ref]<;>(try split)<;>omega
   generalize m.ref ((kT q m.name).map λy=>y.1.data)=e at*;subst YW;refine xJ (mo e YF.1 YF.2) ?_;exact xR
  ·have me:¬m.ref ((kT q m.name).map λy=>y.1.data)≠0:=by grind
   rw[if_neg me]at YW
   have me:m.ref ((kT q m.name).map λy=>y.1.data)=0:=av
   refine X.go 3 U U ?_
   refine aa9 [0,5] [0,0,0,0,2,2,2] (ι:={q':List (WB bn) // q'.map (·.1)=m.files (q.map (·.1)) (((kT q m.name).map λy=>y.1.data).getD [])/\q'.length<=q.length+1/\∀y∈q',y.1.data.length<=1000000000}) (λz q_=>q_) (λz q_=>mp ao bm (Mq z.1)::dz bn.data z.1::q_) ?fin ?main
   case fin=>
    rintro⟨q',hq',Z6,Z9⟩;dsimp only;rw[<-hq']at YW;refine xS ?_;refine bw (Vw GG bm) ?_;rintro _ _ ⟨p,rfl,rfl⟩;refine xD ?_;refine jc [bx p 246 [.map (some bm)],mp ao bm (Mq q')] ?_;have Z4:(Mq q').length=q'.length:=aA _;refine bw (qw GG 257 [au p] _ _ _ (Vx GG p bm (Mq q')) (λpre ⟨post,hp⟩=>?_) (λys hp=>?_)) ?_
    ·have:=hp.length_eq
     grind
    ·have:=hp.length_eq
     grind
    rintro _ _ ⟨ys,yz,aw,cw,rfl,rfl⟩;have wx:sortStr ys=sortStr ((q'.map (·.1)).map (·.name)):=ob (by
     have e:(q'.map (·.1)).map (·.name)=(Mq q').map (·.1):=by unfold Mq;rw[cz,cz];rfl
     grind)
    have hws:=ar3 q';have Vr:(sortStr ((q'.map (·.1)).map (·.name))).length<=q'.length:=by grind [jh]
    have iq:∀n∈sortStr ((q'.map (·.1)).map (·.name)),wf q' n∈q':=by grind [a48,iK]
    rw[wx];generalize sortStr ((q'.map (·.1)).map (·.name))=ns at*;dsimp only[ae,ai,ah];refine kZ [bx p 246 [.map (some bm)],mp ao bm (Mq q')] ?_;dsimp only[ae,ai,ah];refine dE aw (λk:Bs=>[ao k]) ns U U (λ_=>rfl) λ_=>xS ?_;refine X.cd (ej 70 2 _) ?_;refine X.loop (ι:={z:Nat×Option Addr×Nat // z.1<=ns.length}) (λz=>([(0,au B),(5,.map (some bm)),(12,.slice z.1.2.1 z.1.1 z.1.2.2),(113,.slice aw ns.length cw),(114,aX ns.length),(115,aX z.1.1)],[own 70 2 z.1.2.1 z.1.1 z.1.2.2 (((ns.take z.1.1).map (wf q')).flatMap bG),bV RS 1 aw ns,mp ao bm (Mq q'),dz bn.data q',bx B 53 [au D,sv],bM D d])) (λz=>ns.length - z.1.1)
     ⟨(0,none,0),al _⟩ (Sub.of U) (show aN _ [own 70 2 none 0 0 [],bV RS 1 aw ns,mp ao bm (Mq q'),dz bn.data q',bx B 53 [au D,sv],bM D d]from ay) ?_
    rintro⟨⟨i,a12,c12⟩,hi⟩ ih;dsimp only at hi ⊢;refine xB ?_ ?_<;>intro h
    ·have hi:i<ns.length:=by grind
     have ht:(ns.take (i+1)).map (wf q')=(ns.take i).map (wf q')++[wf q' ns[i]]:=ae1;have hil:i=((ns.take i).map (wf q')).length:=bE;have ih:=λz=>ih ⟨(i+1,z),by omega⟩ bE;dsimp only at ih;rw[ht]at ih;refine xS ?_;refine cH U U U U U hi U λbl o=>?_;generalize ns[i]=nm at*;generalize(ns.take i).map (wf q')=acc at*;refine xS ?_;refine rJ nm U U U U ?_;rw[YP,a47];have hwn:=ar2 q' nm;generalize wf q' nm=y at*;subst hwn;refine xZ ?_;intro b9;refine eD (y) U U U U av U iA iA iA iA iA av λa9 c9=>xS ?_;have e9:(acc++[y]).length=i+1:=bE;rw[e9];exact X.W (ih (a9,c9))
    ·have hi:i=ns.length:=by grind
     subst hi;rw[bh];refine xS ?_;refine dE a12 bG (ns.map (wf q')) U (by rw[aA]) (λ_=>rfl) λ_=>?_;refine rK (data:=bn.data) q' (ns.map (wf q')) (λx hx=>by
      grind) ?_
     refine bc4 a12 (q:=ns.map (wf q')) ?_;rw[hws];have pN:(zw (q'.map (·.1))).length=ns.length:=bE;have zJ:∀x∈zw (q'.map (·.1)),x.data.length<=1000000000000:=bE;refine xE (Cs GG D d) ?_;refine bw (Iq GG d.cap a12 ns.length c12 (zw (q'.map (·.1))) pN av zJ) ?_;subst YW;rcases EO d.cap (zw (q'.map (·.1)))with(hn|hn|hn)|⟨s,hn⟩
     ·exact aC0
     ·rw[hn];rintro _ _ ⟨rfl,rfl⟩;refine xD ?_;refine xJ (mo 72 av av) ?_;exact xR
     ·rw[hn];rintro _ _ ⟨rfl,rfl⟩;refine xD ?_;refine xJ (mo 73 av av) ?_;exact xR
     ·exact aO1
   case main=>
    intro KK dW;cases m with
    |lay nm t=>
     simp only[Dm.name,Dm.texts,Dm.gx,Dm.files]at dW ⊢;refine zS q (xS ?_);refine kB (some ⟨bt,ot,none⟩) 1 nH λbt' ot' ha=>?_;cases ha;rw[show[nm,t][1]=t from rfl];refine du (j:=1) U U U U U nH (xS ?_);refine MS U U U λat_ ct hct=>xS ?_;refine qi nm bW U U U U ?_;have Qu:=EN q ((⟨nm,t⟩,some at_,ct):WB bn);dsimp only at Qu;rw[show(Value.slice (some at_) (dq t) ct)=bn.val ((⟨nm,t⟩,some at_,ct):WB bn)from rfl,Qu];refine Pp (data:=bn.data) q ((⟨nm,t⟩,some at_,ct):WB bn) hct (λh=>by cases h) ?_;refine rK (data:=bn.data) (((⟨nm,t⟩,some at_,ct):WB bn)::q) (pT q ((⟨nm,t⟩,some at_,ct):WB bn)) (λx hx=>(nE hx).elim (λh=>by simp[h]) (λh=>by simp[h])) (xS ?_);exact X.W (dW ⟨pT q ((⟨nm,t⟩,some at_,ct):WB bn),by rw[vg],vh _ _,λx hx=>(nE hx).elim (λh=>aj (v8 x h).2 av) (λh=>by grind)⟩)
    |flip nm kk xx=>
     have zy:∃y,kT q nm=some y:=aQ1;obtain⟨y,hy⟩:=zy;obtain⟨Ls,hyn,iy,hiy,hif,hyi⟩:=vi hy;have Kf:=(v8 y Ls).2;simp only[Dm.name,Dm.texts,Dm.gx,Dm.ref,Dm.files,hy,bH,bX]at me wE dW ⊢;cases wE;have hk:kk<y.1.data.length:=by
      omega
     refine kB na 0 nH λbl o ha=>?_;subst ha;refine kB (some ⟨bl,o,none⟩) 1 nH λbl' o' ha=>?_;cases ha;rw[show[kk,xx][0]=kk from rfl,show[kk,xx][1]=xx from rfl];refine xS ?_;refine ab2 kP q iy hiy ?_;rw[hyi,show kP y=own 5 1 y.2.1 y.1.data.length y.2.2 (y.1.data.map fO)from rfl];refine gV y.2.1 av λg hg=>?_;have hyv:y.2.1=some ⟨g,0,none⟩:=hg;rw[hyv];refine eR 14 [6,0,3,2] ?_;apply cW [0,1,2,3,4,5,6,7,8,9,10,11,12,13] U U U
     ·intro p hp;refine xS ?_;refine du (j:=0) U U U U U nH (xS ?_);refine du (j:=kk) U U U U U hk (xS ?_);refine X.iP (v:=fO y.1.data[kk]) U U U (by simp[hk]) (xS ?_);refine du (j:=1) U U U U U nH (xS ?_);refine Pr (hf:=C2.there _ _ _ _ _ _ _ (h:=C2.there _ _ _ _ _ _ _ (h:=C2.there _ _ _ _ _ _ _ (h:=C2.here _ _ _ _ _ _)))) U U U iA (xS ?_);refine du (j:=kk) U U U U U hk (xS ?_);exact hp
     ·rfl
     ·rfl
     refine xS ?_;have hx255:=hnx nm kk xx U;rw[bp6 xx hx255,aV8];refine Pe U U U U U U bB ?_;have hxa:=ar4 y.1.data kk xx hk;rw[hxa];have hxl:(sk y.1.data kk xx).length=y.1.data.length:=by grind [sk]
     have hda:own 5 1 (some ⟨g,0,none⟩) y.1.data.length y.2.2 ((sk y.1.data kk xx).map fO)=kP ((⟨nm,sk y.1.data kk xx⟩,y.2):WB bn):=by grind [kP]
     rw[hda];refine Uy kP q iy hiy ((⟨nm,sk y.1.data kk xx⟩,y.2):WB bn) ?_;have hws:q.set iy ((⟨nm,sk y.1.data kk xx⟩,y.2):WB bn)=pT q ((⟨nm,sk y.1.data kk xx⟩,y.2):WB bn):=by grind [pT]
     have Qu:Mq q=Mq (pT q ((⟨nm,sk y.1.data kk xx⟩,y.2):WB bn)):=by
      grind [a61]
     rw[hws,Qu];refine zS (pT q ((⟨nm,sk y.1.data kk xx⟩,y.2):WB bn)) (xS ?_);exact X.W (dW ⟨pT q ((⟨nm,sk y.1.data kk xx⟩,y.2):WB bn),by grind [vg],vh _ _,λx hx=>(nE hx).elim (λh=>aj (v8 x h).2 av) (λh=>by grind)⟩)
    |cut nm kk=>
     have zy:∃y,kT q nm=some y:=aQ1;obtain⟨y,hy⟩:=zy;obtain⟨Ls,hyn,iy,hiy,hif,hyi⟩:=vi hy;have Kf:=(v8 y Ls).2;simp only[Dm.name,Dm.texts,Dm.gx,Dm.ref,Dm.files,hy,bH,bX]at me wE dW ⊢;cases wE;have hk:kk<=y.1.data.length:=by
      omega
     refine kB na 0 nH λbl o ha=>?_;subst ha;rw[show[kk][0]=kk from rfl];refine zS q ?_;refine oI (data:=bn.data) q y Ls λjz mD=>xS ?_;refine du (j:=0) U U U U U nH (xS ?_);refine be1 (h:=kk) U U U (Bd.at U U) hk jz (xS ?_);have Ud:(y.1.data.take kk).length=kk:=bE;refine qi nm bW U U U U ?_;have Qu:=EN q ((⟨nm,y.1.data.take kk⟩,y.2):WB bn);dsimp only at Qu;rw[show bn.val ((⟨nm,y.1.data.take kk⟩,y.2):WB bn)=Value.slice y.2.1 kk y.2.2 from by grind]at Qu;rw[Qu];refine CT bn.data q (pT q ((⟨nm,y.1.data.take kk⟩,y.2):WB bn)) (λx hx=>(nE hx).elim (λh=>⟨x,h,x.1.data.length,U,bh.symm⟩) (λh=>by grind)) (xS ?_);exact X.W (dW ⟨pT q ((⟨nm,y.1.data.take kk⟩,y.2):WB bn),by grind [vg],vh _ _,λx hx=>(nE hx).elim (λh=>aj (v8 x h).2 av) (λh=>by grind)⟩)
    |OU nm=>
     have zy:∃y,kT q nm=some y:=aQ1;obtain⟨y,hy⟩:=zy;obtain⟨Ls,hyn,iy,hiy,hif,hyi⟩:=vi hy;have Kf:=(v8 y Ls).2;simp only[Dm.name,Dm.texts,Dm.gx,Dm.ref,Dm.files,hy,bH,bX]at me wE dW ⊢;cases wE;refine zS q (xS ?_);refine CK nm bW U U U ?_;rw[YR];refine rK (data:=bn.data) q (AN q nm) (λx hx=>zx hx) (xS ?_);exact X.W (dW ⟨AN q nm,by rw[LP],aj (LQ _ _) av,λx hx=>aj (v8 x (zx hx)).2 av⟩)
    |copy nm t=>
     have zy:∃y,kT q nm=some y:=aQ1;obtain⟨y,hy⟩:=zy;obtain⟨Ls,hyn,iy,hiy,hif,hyi⟩:=vi hy;have Kf:=(v8 y Ls).2;simp only[Dm.name,Dm.texts,Dm.gx,Dm.ref,Dm.files,hy,bH,bX]at me wE dW ⊢;cases wE;refine zS q (xS ?_);refine kB (some ⟨bt,ot,none⟩) 1 nH λbt' ot' ha=>?_;cases ha;rw[show[nm,t][1]=t from rfl];refine du (j:=1) U U U U U nH (xS ?_);refine oI (data:=bn.data) q y Ls λjz mD=>?_;refine qi t bW U U U U ?_;have Qu:=EN q ((⟨t,y.1.data⟩,y.2):WB bn);dsimp only at Qu;rw[Qu];refine Pp (data:=bn.data) q ((⟨t,y.1.data⟩,y.2):WB bn) jz mD ?_;refine rK (data:=bn.data) (((⟨t,y.1.data⟩,y.2):WB bn)::q) (pT q ((⟨t,y.1.data⟩,y.2):WB bn)) (λx hx=>(nE hx).elim (λh=>by simp[h]) (λh=>by simp[h])) (xS ?_);exact X.W (dW ⟨pT q ((⟨t,y.1.data⟩,y.2):WB bn),by grind [vg],vh _ _,λx hx=>(nE hx).elim (λh=>aj (v8 x h).2 av) (λh=>by grind)⟩)
    |move nm t=>
     have zy:∃y,kT q nm=some y:=aQ1;obtain⟨y,hy⟩:=zy;obtain⟨Ls,hyn,iy,hiy,hif,hyi⟩:=vi hy;have Kf:=(v8 y Ls).2;simp only[Dm.name,Dm.texts,Dm.gx,Dm.ref,Dm.files,hy,bH,bX]at me wE dW ⊢;cases wE;refine zS q (xS ?_);refine CK nm bW U U U ?_;rw[YR];refine xS ?_;refine kB (some ⟨bt,ot,none⟩) 1 nH λbt' ot' ha=>?_;cases ha;rw[show[nm,t][1]=t from rfl];refine du (j:=1) U U U U U nH (xS ?_);refine oI (data:=bn.data) q y Ls λjz mD=>?_;refine qi t bW U U U U ?_;have Qu:=EN (AN q nm) ((⟨t,y.1.data⟩,y.2):WB bn);dsimp only at Qu;rw[Qu];refine Pp (data:=bn.data) q ((⟨t,y.1.data⟩,y.2):WB bn) jz mD ?_;refine rK (data:=bn.data) (((⟨t,y.1.data⟩,y.2):WB bn)::q) (pT (AN q nm) ((⟨t,y.1.data⟩,y.2):WB bn)) (λx hx=>(nE hx).elim (λh=>by simp[zx h]) (λh=>by simp[h])) (xS ?_);exact X.W (dW ⟨pT (AN q nm) ((⟨t,y.1.data⟩,y.2):WB bn),by grind [vg,LP],by grind [vh,LQ],λx hx=>(nE hx).elim (λh=>aj (v8 x (zx h)).2 av) (λh=>by grind)⟩)
end
instance:TFu ab 118:=⟨_,_,_,Tryz.underlying118⟩
structure mq where
 fZ:be
 zz:Option fJ
def F7(B:Nat)(x:mq)(p:Nat×Nat):List az:=match x.zz with
 |none=>[bx B 53 [au p.1,.pointer none],bM p.1 x.fZ]
 |some s=>[bx B 53 [au p.1,au p.2],bM p.1 x.fZ,dX (p.2,p.1,0) s]
def AO(B:Nat)(x:mq):az:=ex (F7 B x)
inductive jB where
 |LU (k:Nat)|ma (t:Bs) (k1 k2:Nat)|put (k v:Bs)|del (ks:List Bs)|get (k:Bs)|sync|merge|close|keys|all|last
 |fail (k:Nat)|brk (k:Nat) (t:Bs)|ji (k:Nat)|dm (m:Dm)|files|read (t:Bs)|used
@[reducible] def jB.word:jB->Bs
 |.LU _=>[100,105,115,107]|.ma ..=>[111,112,101,110]|.put ..=>[112,117,116]|.del _=>[100,101,108]|.get _=>[103,101,116]|.sync=>[115,121,110,99]|.merge=>[109,101,114,103,101]|.close=>[99,108,111,115,101]|.keys=>[107,101,121,115]|.all=>[97,108,108]|.last=>[108,97,115,116]
 |.fail _=>[102,97,105,108]|.brk ..=>[98,114,101,97,107]|.ji _=>[99,114,97,115,104]|.dm m=>m.word|.files=>[102,105,108,101,115]|.read _=>[114,101,97,100]|.used=>[117,115,101,100]
@[reducible] def jB.texts:jB->List Bs
 |.ma t _ _=>[t]|.put k v=>[k,v]|.del ks=>ks|.get k=>[k]|.brk _ t=>[t]|.dm m=>m.texts|.read t=>[t]|_=>[]
@[reducible] def jB.gx:jB->List Nat
 |.LU k=>[k]|.ma _ k1 k2=>[k1,k2]|.fail k=>[k]|.brk k _=>[k]|.ji k=>[k]|.dm m=>m.gx|_=>[]
@[reducible] def jB.cmd(a:jB):xM:=⟨a.word,a.texts,a.gx⟩
@[reducible] def jB.f1:jB->Option Nat
 |.LU _=>some 97|.ma ..=>some 98|.fail _=>some 110|.brk ..=>some 112|.ji _=>some 113|.dm _=>some 114|.files=>some 115|.read _=>some 116|.used=>some 117|_=>none
@[reducible] def jB.f2:jB->Option Nat
 |.put ..=>some 99|.del _=>some 101|.get _=>some 102|.sync=>some 103|.merge=>some 104|.close=>some 105|.keys=>some 106|.all=>some 107|.last=>some 108|_=>none
theorem jB.sh(a:jB):∃s,B9 a.word=some s/\s.f1=a.f1/\s.f2=a.f2:=by
 cases a with
 |dm m=>cases m<;>exact⟨_,U,U,U⟩
 |_=>exact⟨_,U,U,U⟩
@[reducible] def aP6:Bs:=[110,111,110,101]
def mq.tA(x:mq)(f:fJ->(fJ×be)×Bs):mq×Bs:=match x.zz with
 |none=>(x,aP6)
 |some s=>(⟨(f s).1.2,some (f s).1.1⟩,(f s).2)
def mq.new(x:mq)(p:Option be×Int):mq×Bs:=(match p with|(some d,0)=>⟨d,none⟩|_=>x,gF p.2)
def mq.do(x:mq):jB->mq×Bs
 |.LU k=>x.new (oT k [])
 |.ma t k1 k2=>(⟨(gR x.fZ k1 k2 (t==kC)).1,match(gR x.fZ k1 k2 (t==kC)).2 with|.ok z=>some z.1|.error _=>none⟩,BJ (gR x.fZ k1 k2 (t==kC)).2)
 |.put k v=>x.tA λs=>((s.put x.fZ k v).1,gF (s.put x.fZ k v).2)
 |.del ks=>x.tA λs=>((s.delete x.fZ ks).1,gF (s.delete x.fZ ks).2)
 |.get k=>x.tA λs=>((s,(s.get x.fZ k).1),aq6 (s.get x.fZ k).2)
 |.sync=>x.tA λs=>((s.sync x.fZ).1,gF (s.sync x.fZ).2)
 |.merge=>x.tA λs=>((s.merge x.fZ).1,gF (s.merge x.fZ).2)
 |.close=>x.tA λs=>((s.close x.fZ).1,gF (s.close x.fZ).2)
 |.keys=>x.tA λs=>((s,x.fZ),wD s.keys)
 |.all=>x.tA λs=>((s,(s.all x.fZ).2),F6 (s.all x.fZ).1)
 |.last=>x.tA λs=>((s,x.fZ),[108,97,115,116,32]++gT s.last.toNat)
 |.fail k=>(⟨(x.fZ.fail k).1,x.zz⟩,gF (x.fZ.fail k).2)
 |.brk k t=>(⟨(x.fZ.break k (t==tw)).1,x.zz⟩,gF (x.fZ.break k (t==tw)).2)
 |.ji k=>(⟨x.fZ.ji k,none⟩,[111,107])
 |.dm m=>x.new (m.do x.fZ)
 |.files=>(x,pw x.fZ.all)
 |.read t=>(x,vf t x.fZ.all)
 |.used=>(x,[117,115,101,100,32]++gK x.fZ.used)
def mq.pre(x:mq)(a:jB):Prop:=(∀n∈a.gx,n<=1000000000)/\x.fZ.files.length<=50000000000/\match a with
 |.ma t k1 k2=>(∀m,fI x.fZ.all x.fZ.cap []=.ok m->(x.fZ.ml m.steps).1.files.length<=100000000000)/\(kY x.fZ (t==kC)).1.files.length<=100000000000/\
  (∀z,(gR x.fZ k1 k2 (t==kC)).2=.ok z->dI z.1.dir<=1000000000/\z.1.keys.length<=1000000000/\z.2.bz<=1000000000000000000/\z.2.cD<=1000000000000000000)/\(∀e,(gR x.fZ k1 k2 (t==kC)).2=.error e->F5 e)
 |.put k v=>∀s,x.zz=some s->s.wr.kS/\dI s.dir+1<=1000000000/\F5 (s.put x.fZ k v).2
 |.del ks=>ks.length<=100000/\∀s,x.zz=some s->∃N,s.ok N/\N+ks.length<=900000000/\F5 (s.delete x.fZ ks).2
 |.get k=>∀s,x.zz=some s->dI s.dir<=1000000000/\LD (s.dir.get k).1.place/\F5 (s.get x.fZ k).2.2.2/\(s.get x.fZ k).2.1.length<=100000000
 |.sync=>∀s,x.zz=some s->F5 (s.sync x.fZ).2
 |.merge=>∀s,x.zz=some s->s.OM/\(WD.close (s.wr,x.fZ)).1.2.files.length<=50000000000/\(lu (WD.close (s.wr,x.fZ)).1.2 s.cK).1.files.length<=100000000000/\F5 (s.merge x.fZ).2
 |.close=>∀s,x.zz=some s->F5 (s.close x.fZ).2
 |.keys=>∀s,x.zz=some s->dI s.dir<=1000000000/\s.keys.length<=1000000000/\∀k∈s.keys,k.length<=100000000
 |.all=>∀s,x.zz=some s->dI s.dir<=1000000000/\(∀k,LD (s.dir.get k).1.place)/\s.keys.length<=1000000000/\(s.all x.fZ).1.length<=1000000000/\∀y∈(s.all x.fZ).1,y.1.length<=100000000/\y.2.length<=100000000
 |.dm m=>(∀t∈m.texts,t.length<=1000000000)/\(∀n k x,m=.flip n k x->x<=255)
 |.used=>x.fZ.used<=4194304
 |_=>True
@[reducible] def TL(a:jB)(p:(Option Addr×Nat)×(Option Addr×Nat)):Value:=.agg #[ao a.word,.slice p.1.1 a.texts.length p.1.2,.slice p.2.1 a.gx.length p.2.2]
section
variable {x:mq}{n B:Nat}{args:Array Value}{F:List az}{ans:Bs}{d':be}
theorem nb(B:Nat)(x:mq)(p:Nat×Nat):aN (F7 B x p) [AO B x]:=by
 have h:=gU (f:=F7 B x) p [];rw[ah]at h;exact h
theorem vj(hT:∀D sv,TR ab GG n args (bx B 53 [au D,sv]::bM D x.fZ::F) (cb λu C=>u=ao ans/\C=[bx B 53 [au D,sv],bM D d'])):
 TR ab GG n args (AO B x::F) (cb λu C=>u=ao ans/\C=[AO B ⟨d',x.zz⟩]):=by
 refine MP λp=>?_
 obtain⟨d,s⟩:=x
 cases s with
 |none=>
  refine j' (hT p.1 (.pointer none)) ?_;rintro v C ⟨h1,rfl⟩;exact⟨_,⟨h1,U⟩,nb B ⟨d',none⟩ p⟩
 |some s=>
  refine j' (TR.dH (CM (hT p.1 (au p.2)) [dX (p.2,p.1,0) s]) (di ?_) λe C hC=>⟨C,hC,aN.refl _⟩) ?_
  ·show List.Perm ([bx B 53 [au p.1,au p.2],bM p.1 d]++([dX (p.2,p.1,0) s]++F)) (([bx B 53 [au p.1,au p.2],bM p.1 d]++F)++[dX (p.2,p.1,0) s])
   grind [List.Perm.append_left,cG]
  ·rintro v C ⟨C',⟨h1,rfl⟩,rfl⟩;exact⟨_,⟨h1,U⟩,nb B ⟨d',some s⟩ p⟩
theorem CB{Q:Nat->Value->List az->Prop}{y:mq}(hT:∀D sv,TR ab GG n args (bx B 53 [au D,sv]::bM D x.fZ::F) (cb λu C=>u=ao ans/\Q D sv C))(hq:∀D sv C,Q D sv C->(∃p,aN C (F7 B y p))\/(y=x/\C=[bx B 53 [au D,sv],bM D x.fZ])):
 TR ab GG n args (AO B x::F) (cb λu C=>u=ao ans/\C=[AO B y]):=by
 refine MP λp=>?_
 obtain⟨d,s⟩:=x
 cases s with
 |none=>
  refine j' (hT p.1 (.pointer none)) ?_;rintro v C ⟨h1,h2⟩;rcases hq _ _ _ h2 with⟨p',hp⟩|⟨rfl,rfl⟩
  ·exact⟨_,⟨h1,U⟩,hp.trans (nb B y p')⟩
  ·exact⟨_,⟨h1,U⟩,nb B ⟨d,none⟩ p⟩
 |some s=>
  refine j' (TR.dH (CM (hT p.1 (au p.2)) [dX (p.2,p.1,0) s]) (di ?_) λe C hC=>⟨C,hC,aN.refl _⟩) ?_
  ·show List.Perm ([bx B 53 [au p.1,au p.2],bM p.1 d]++([dX (p.2,p.1,0) s]++F)) (([bx B 53 [au p.1,au p.2],bM p.1 d]++F)++[dX (p.2,p.1,0) s])
   grind [List.Perm.append_left,cG]
  ·rintro v C ⟨C',⟨h1,h2⟩,rfl⟩;rcases hq _ _ _ h2 with⟨p',hp⟩|⟨rfl,rfl⟩
   ·exact⟨_,⟨h1,U⟩,(fN _ _).trans (hp.trans (nb B y p'))⟩
   ·exact⟨_,⟨h1,U⟩,nb B ⟨d,some s⟩ p⟩
end
theorem Qv{B D:Nat}{sv:Value}{x:mq}{p:Option be×Int}{C:List az}(h:AM B D sv x.fZ p C):(∃q,aN C (F7 B (x.new p).1 q))\/((x.new p).1=x/\C=[bx B 53 [au D,sv],bM D x.fZ]):=by
 unfold AM at h
 unfold mq.new
 split at h
 ·obtain⟨D1,rfl⟩:=h;exact .inl ⟨(D1,0),aN.refl _⟩
 grind
theorem lX{x:mq}{s:fJ}(hx:x.zz=some s)(f:fJ->(fJ×be)×Bs):x.tA f=(⟨(f s).1.2,some (f s).1.1⟩,(f s).2):=by
 grind [mq.tA]
inductive DoK(B:Nat)(x:mq)(a:jB)(p:(Option Addr×Nat)×(Option Addr×Nat))(y:mq×Bs):Option Nat->Option Nat->Prop where
 |F8 (n:Nat) (f2:Option Nat) (rH:CF ab n) (hT:TR ab GG n #[au B,TL a p] [AO B x,bV RS 1 p.1.1 a.texts,bV RN 1 p.2.1 a.gx] (cb λu C=>u=ao y.2/\C=[AO B y.1])):DoK B x a p y (some n) f2
 |asks (n:Nat) (s s':fJ) (rH:CF ab n) (hx:x.zz=some s) (hy:y.1.zz=some s') (hT:∀S D,TR ab GG n #[au S,TL a p] [dX (S,D,0) s,bM D x.fZ,bV RS 1 p.1.1 a.texts,bV RN 1 p.2.1 a.gx] (cb λu C=>u=ao y.2/\C=[dX (S,D,0) s',bM D y.1.fZ])):DoK B x a p y none (some n)
 |none (f2:Option Nat) (hx:x.zz=none) (hy:y=(x,aP6)):DoK B x a p y none f2
theorem Up(x:mq)[hf:FP Hs (AO B x) F](h:∀p,X ab b β cc k E (F7 B x p++F) R):X ab b β cc k E Hs R:=
 jo λw hs=>by
  obtain⟨p,h1⟩:=iX (hs.cd hf.out)
  grind
theorem ShR.one(n:Nat)(f1 f2:Option Nat):mB [.slice a n n,fv f1,fv f2]=true:=by cases f1<;>cases f2<;>rfl
theorem a62(x:mq)(a:jB)(p:(Option Addr×Nat)×(Option Addr×Nat))(y:mq×Bs)(hk:DoK B x a p y a.f1 a.f2):
 TR ab GG 19 #[au B,TL a p] [AO B x,bV RS 1 p.1.1 a.texts,bV RN 1 p.2.1 a.gx] (cb λu C=>u=ao y.2/\C=[AO B y.1]):=by
 refine aW U λb β hb hG=>?_
 obtain⟨sh,Ko,h1,h2⟩:=a.sh
 rw[<-h1,<-h2]at hk
 refine xP ?_
 intro b3
 refine tU [0,3] [] (ι:=Nat×Option Addr×Nat) (λz q_=>(5,au z.1)::q_) (λz q_=>bx z.1 121 [.slice z.2.1 z.2.2 z.2.2,fv sh.f1,fv sh.f2]::q_) ?fin ?main
 case main=>
  intro KK dW
  refine nR [1,2] [0] ?_
  refine xL [1,2] ?_
  refine dA U U U U U ?_ ?_
  ·skip
   refine bw (tt GG a.word) ?_
   rintro _ _ ⟨m,M,cs,XX,rfl,hM1,hM2,hR,rfl⟩
   rw[Ko]at hR
   obtain⟨aq,rfl,rfl⟩:=hR
   dsimp only[ae,ai,ah]
   refine X.sw ?_
   refine dA U U U U U ?_ ?_
   ·skip
    refine qS a.word bW U U U U (zv:=.agg #[.slice none 0 0,.nilFunc,.nilFunc]) (λw _=>Tryz.zeroValue121 w) ?_
    rw[hM1]
    refine xA ?_
    intro b5
    refine X.st U U U U U (ShR.one _ _ _ _) iA (xS ?_)
    exact X.W (dW (b5,aq,sh.ib.length))
   ·skip
    refine xA ?_
    intro b5
    exact a99
  ·skip
   refine xA ?_
   intro b5
   refine bw (tt GG a.word) ?_
   rintro _ _ ⟨m,M,cs,XX,rfl,hM1,hM2,hR,rfl⟩
   rw[Ko]at hR
   obtain⟨aq,rfl,rfl⟩:=hR
   refine xD ?_
   exact a99
 case fin=>
  rintro⟨b5,aq,nq⟩;dsimp only;generalize hg1:sh.f1=g1 at*;generalize hg2:sh.f2=g2 at*;clear Ko;cases hk with
  |F8 n _ rH hT=>
   refine xS ?_;refine MD U U U U (xS ?_);refine gW (us:=[au B,TL a p]) (fst:=[]) (cap:=[]) hG hT U U U U aN.es ?_;exact Xe
  |asks n s s' rH hx hy hT=>
   refine Up B x λq=>?_;unfold F7;rw[hx];refine xD ?_;refine MD U U U U (xS ?_);refine eR 7 [3,0,4] ?_;refine xL [0,1,2,3,4,5,6] ?_;refine xS ?_;refine gW (us:=[au q.2,TL a p]) (fst:=[]) (cap:=[]) hG (hT q.2 q.1) U U U U aN.es ?_;rintro _ _ ⟨rfl,rfl⟩;refine xD ?_;refine X.ret hb (.tmps U) ⟨_,⟨U,U⟩,aN.trans ?_ (nb B y.1 q)⟩;unfold F7;rw[hy];exact ay
  |none _ hx hy=>
   subst hy;refine Up B x λq=>?_;unfold F7;rw[hx];refine xD ?_;refine MD U U U U (xS ?_);refine X.ret hb (.tmps U) ⟨_,⟨U,U⟩,aN.trans ?_ (nb B x q)⟩;unfold F7;rw[hx];exact ay
theorem ar6(x:mq)(a:jB)(p:(Option Addr×Nat)×(Option Addr×Nat))(hp:x.pre a):DoK B x a p (x.do a) a.f1 a.f2:=by
 obtain⟨hn,hl,hp⟩:=hp;obtain⟨⟨pa,pc⟩,⟨na,nc⟩⟩:=p;have pz:x.fZ.files.length<=100000000000:=av;have hl3:x.fZ.files.length<=90000000000:=av;cases a with
 |put k v=>
  cases hx:x.zz with
  |none=>exact .none _ hx IZ
  |some s=>
   rw[show x.do (.put k v)=_ from lX hx _];obtain⟨h1,h2,h3⟩:=hp s hx;exact .asks 99 s _ inferInstance hx U λS D=>(TR.dH (aq4 k v pz h1 h2 h3) ay λe C hC=>⟨C,hC,aN.refl _⟩)
 |del ks=>
  cases hx:x.zz with
  |none=>exact .none _ hx IZ
  |some s=>
   rw[show x.do (.del ks)=_ from lX hx _];obtain⟨N,h1,h2,h3⟩:=hp.2 s hx;exact .asks 101 s _ inferInstance hx U λS D=>(TR.dH (aq5 ks hp.1 N h1 h2 hl3 h3) ay λe C hC=>⟨C,hC,aN.refl _⟩)
 |get k=>
  cases hx:x.zz with
  |none=>exact .none _ hx IZ
  |some s=>
   rw[show x.do (.get k)=_ from lX hx _];obtain⟨h1,h2,h3,h4⟩:=hp s hx;exact .asks 102 s _ inferInstance hx U λS D=>(TR.dH (aq7 k h1 h2 h3 h4) ay λe C hC=>⟨C,hC,aN.refl _⟩)
 |sync=>
  cases hx:x.zz with
  |none=>exact .none _ hx IZ
  |some s=>
   rw[show x.do (.sync)=_ from lX hx _];exact .asks 103 s _ inferInstance hx U λS D=>(TR.dH (YI (hp s hx)) ay λe C hC=>⟨C,hC,aN.refl _⟩)
 |merge=>
  cases hx:x.zz with
  |none=>exact .none _ hx IZ
  |some s=>
   rw[show x.do (.merge)=_ from lX hx _];obtain⟨h1,h2,h3,h4⟩:=hp s hx;exact .asks 104 s _ inferInstance hx U λS D=>(TR.dH (TC h1 hl h2 h3 h4) ay λe C hC=>⟨C,hC,aN.refl _⟩)
 |close=>
  cases hx:x.zz with
  |none=>exact .none _ hx IZ
  |some s=>
   rw[show x.do (.close)=_ from lX hx _];exact .asks 105 s _ inferInstance hx U λS D=>(TR.dH (TE (hp s hx)) ay λe C hC=>⟨C,hC,aN.refl _⟩)
 |keys=>
  cases hx:x.zz with
  |none=>exact .none _ hx IZ
  |some s=>
   rw[show x.do (.keys)=_ from lX hx _];obtain⟨h1,h2,h3⟩:=hp s hx;exact .asks 106 s _ inferInstance hx U λS D=>(TR.dH (YK h1 h2 h3) ay λe C hC=>⟨C,hC,aN.refl _⟩)
 |all=>
  cases hx:x.zz with
  |none=>exact .none _ hx IZ
  |some s=>
   rw[show x.do (.all)=_ from lX hx _];obtain⟨h1,h2,h3,h4,h5⟩:=hp s hx;exact .asks 107 s _ inferInstance hx U λS D=>(TR.dH (aq8 h1 h2 h3 h4 h5) ay λe C hC=>⟨C,hC,aN.refl _⟩)
 |last=>
  cases hx:x.zz with
  |none=>exact .none _ hx IZ
  |some s=>
   rw[show x.do (.last)=_ from lX hx _];exact .asks 108 s _ inferInstance hx U λS D=>(TR.dH (YJ) ay λe C hC=>⟨C,hC,aN.refl _⟩)
 |fail k=>
  exact .F8 110 _ inferInstance (vj λD sv=>(TR.dH (YL (D:=D) (sv:=sv) (d:=x.fZ) k (hn k nH)) ay λe C hC=>⟨C,hC,aN.refl _⟩))
 |brk k t=>
  exact .F8 112 _ inferInstance (vj λD sv=>(TR.dH (TG (D:=D) (sv:=sv) (d:=x.fZ) k (hn k nH) t) ay λe C hC=>⟨C,hC,aN.refl _⟩))
 |used=>
  exact .F8 117 _ inferInstance (vj λD sv=>(TR.dH (YM (D:=D) (sv:=sv) (d:=x.fZ) hp) ay λe C hC=>⟨C,hC,aN.refl _⟩))
 |files=>
  exact .F8 115 _ inferInstance (vj λD sv=>(TR.dH (TI (D:=D) (sv:=sv) (d:=x.fZ) pz) ay λe C hC=>⟨C,hC,aN.refl _⟩))
 |read t=>
  exact .F8 116 _ inferInstance (vj λD sv=>(TR.dH (TJ (D:=D) (sv:=sv) (d:=x.fZ) t pz) ay λe C hC=>⟨C,hC,aN.refl _⟩))
 |ji k=>
  exact .F8 113 _ inferInstance (CB (Q:=λD sv C=>C=[bx B 53 [au D,.pointer none],bM D (x.fZ.ji k)]) (λD sv=>(TR.dH (TH (D:=D) (sv:=sv) (d:=x.fZ) k) ay λe C hC=>⟨C,hC,aN.refl _⟩)) λD sv C hC=>.inl ⟨(D,0),jk hC⟩)
 |LU k=>
  exact .F8 97 _ inferInstance (CB (Q:=λD sv C=>AM B D sv x.fZ (oT k []) C) (λD sv=>(TR.dH (YN (D:=D) (sv:=sv) (d:=x.fZ) k (hn k nH)) ay λe C hC=>⟨C,hC,aN.refl _⟩)) λD sv C hC=>Qv hC)
 |dm m=>
  exact .F8 114 _ inferInstance (CB (Q:=λD sv C=>AM B D sv x.fZ (m.do x.fZ) C) (λD sv=>(TR.dH (ar5 (D:=D) (sv:=sv) (d:=x.fZ) m pz hp.1 hp.2) ay λe C hC=>⟨C,hC,aN.refl _⟩)) λD sv C hC=>Qv hC)
 |ma t k1 k2=>
  obtain⟨h1,h2,h3,h4⟩:=hp;exact .F8 98 _ inferInstance (CB (Q:=λD sv C=>OS B D (gR x.fZ k1 k2 (t==kC)) C) (λD sv=>(TR.dH (YO (D:=D) (sv:=sv) (d:=x.fZ) t k1 k2 (hn k1 nH) (hn k2 nH) hl h1 h2 h3 h4) ay λe C hC=>⟨C,hC,aN.refl _⟩)) λD sv C hC=>by
   unfold OS at hC;refine .inl ?_;rw[show x.do (.ma t k1 k2)=(⟨(gR x.fZ k1 k2 (t==kC)).1,match(gR x.fZ k1 k2 (t==kC)).2 with|.ok z=>some z.1|.error _=>none⟩,BJ (gR x.fZ k1 k2 (t==kC)).2)from rfl];generalize gR x.fZ k1 k2 (t==kC)=r at*;obtain⟨d1,rr⟩:=r;cases rr with
   |error e=>exact⟨(D,0),jk hC⟩
   |ok z=>
    obtain⟨S,hC⟩:=hC;exact⟨(D,S),hC▸(aN.cons _ (cQ _ _ _))⟩)
theorem a65(x:mq)(a:jB)(p:(Option Addr×Nat)×(Option Addr×Nat))(hp:x.pre a):
 TR ab GG 19 #[au B,TL a p] [AO B x,bV RS 1 p.1.1 a.texts,bV RN 1 p.2.1 a.gx] (cb λu C=>u=ao (x.do a).2/\C=[AO B (x.do a).1]):=
 a62 B x a p (x.do a) (ar6 B x a p hp)
def tB:mq:=⟨⟨4194304,0,[],0,0,false,false⟩,none⟩
def mq.after(x:mq)(l:List jB):mq:=l.foldl (λx a=>(x.do a).1) x
def mq.outs(x:mq):List jB->Bs
 |[]=>[]
 |a::r=>(x.do a).2++[10]++(x.do a).1.outs r
def mq.kS(x:mq):List jB->Prop
 |[]=>True
 |a::r=>x.pre a/\(x.do a).1.kS r
theorem zA(s:Bs)(h:20000<s.length):TR ab GG 7 #[ao s] [] (cb λu C=>u=.tuple #[ao [],.int .i64 0,.int .i64 160]/\C=[]):=by
 refine cg U λb β hb hG=>xS ?_;refine aM 15 true U bB (xS ?_);exact aO7
theorem I3(s:Bs)(h:s.length<=20000)(i:Nat)(hi:0<i)(hp:kK s=.error i):TR ab GG 7 #[ao s] [] (cb λu C=>u=.tuple #[ao [],.int .i64 i,.int .i64 161]/\C=[]):=by
 refine cg U λb β hb hG=>xS ?_;refine aM 15 false U bB (xS ?_);refine bw (Ho s h) ?_;rw[hp];rintro _ _ ⟨rfl,rfl⟩;refine xD ?_;refine aM 22 true U bB (xS ?_);exact aO7
theorem YY(s:Bs)(h:s.length<=20000)(Mu:List jB)(hp:kK s=.ok (Mu.map jB.cmd))(ub:Mu.length<=1000000)(hg:tB.kS Mu)(ho:(tB.outs Mu).length<=140737488355328):
 TR ab GG 7 #[ao s] [] (cb λu C=>u=.tuple #[ao (tB.outs Mu),.int .i64 0,.int .i64 0]/\C=[]):=by
 refine cg U λb β hb hG=>xS ?_
 refine aM 15 false U bB (xS ?_)
 refine bw (Ho s h) ?_
 rw[hp]
 rintro _ _ ⟨q,hq,a,c,rfl,rfl⟩
 dsimp only[ae,ai,ah]
 refine dE a TB q U U (λ_=>rfl) λZ7=>xS ?_
 refine Ur BY 2 ?_
 refine bw (Iq GG 4194304 none 0 0 [] U de nH) ?_
 rw[show oT 4194304 []=(some tB.fZ,0)from rfl]
 rintro _ _ ⟨D,rfl,rfl⟩
 refine xD ?_
 refine xP ?_
 intro bb
 refine jC U U λrR=>?_
 refine Uw rR U (xS ?_)
 have Z6:Mu.length=q.length:=bi2
 have hout:tB.outs Mu=[]++tB.outs (Mu.drop 0):=U
 generalize tB.outs Mu=out at*
 refine X.cd (aN.trans (ay (A:=[bx bb 53 [au D,.pointer none],bM D tB.fZ,NI rR [],bV (bp TB) 3 a q,YH q])) (iQ (nb bb tB (D,0)) [NI rR [],bV (bp TB) 3 a q,YH q])) ?_
 dsimp only[ae,ai,ah]
 refine X.loop (ι:={z:Nat×mq×Bs // z.1<=q.length/\z.2.1.kS (Mu.drop z.1)/\out=z.2.2++z.2.1.outs (Mu.drop z.1)}) (λz=>([(9,au bb),(10,au rR),(31,.slice a q.length c),(32,aX q.length),(33,aX z.1.1)],[AO bb z.1.2.1,NI rR z.1.2.2,bV (bp TB) 3 a q,YH q])) (λz=>q.length - z.1.1)
  ⟨(0,tB,[]),al _,hg,hout⟩ (Sub.of U) ay ?_
 rintro⟨⟨i,x,acc⟩,hi,V1,hoe⟩ ih
 dsimp only at hi V1 hoe ⊢
 refine xB ?_ ?_<;>intro hc
 ·have hi:i<q.length:=by grind
  have hia:i<Mu.length:=av;rw[aP hia,mq.outs]at hoe;rw[aP hia,mq.kS]at V1;have hqi:(q[i]).1=Mu[i].cmd:=by
   have h1:(q.map (·.1))[i]?=(Mu.map jB.cmd)[i]?:=by rw[hq]
   grind
  have iq:=aB hi;have ih:=λx' acc' hg' ho'=>ih ⟨(i+1,x',acc'),by omega,hg',ho'⟩ bE;dsimp only at ih;generalize Mu.drop (i+1)=tl at*;refine xS ?_;refine cH U U U U U hi U λbl o=>?_;generalize q[i]=y at*;generalize Mu[i]=cm at*;obtain⟨yc,yp⟩:=y;dsimp only at hqi;subst hqi;refine be4 q ((cm.cmd,yp):WC) iq λhy1 hy2=>?_;dsimp only;refine xS ?_;refine dF U U U U  ?_;refine xA ?_;intro Bl;refine xH (a65 bb x cm yp V1.1) ?_;have hgd2:=V1.2;have hol:=ho;rw[hoe,aG,aG,aG]at hol;generalize hxd:x.do cm=r at*;refine xE (Dw GG rR acc (r.2++[10]) bE) ?_;exact X.W (ih r.1 (acc++(r.2++[10])) hgd2 bE)
 ·have hi:i=q.length:=by grind
  subst hi;rw[bc av,mq.outs,ah]at hoe;subst hoe;refine xE (uL GG rR out) ?_;exact aO7
def zB(l:List (Bs×bF)):Nat:=l.countP λx=>x.2.last==0
def be.P(d:be):Nat:=zB d.files
theorem Qw(m:List (Bs×bF)):zB (l++m)=zB l+zB m:=List.countP_append
theorem a68:zB l<=l.length:=List.countP_le_length
theorem EP:zB (ku l n)<=zB l:=by
 grind [zB,ku,List.filter_sublist]
theorem vk{n:Bs}{f g:bF}:∀{l:List (Bs×bF)},(l.map (·.1)).Nodup->jE l n=some f->zB (nv l n g)+(if f.last=0 then 1 else 0)=zB l+(if g.last=0 then 1 else 0)
 |[],_,h=>by cases h
 |x::r,hn,h=>by
  rw[aK,gA]at hn;unfold jE at h;rw[List.find?_cons]at h;unfold nv zB;rw[aK,List.countP_cons,List.countP_cons];by_cases hx:x.1=n
  ·simp only[hx,decide_true,bH,fF]at h
   subst h
   have hr:r.map (λx=>if x.1=n then(x.1,g)else x)=r:=by
    conv=>rhs;rw[<-List.map_id r]
    grind [bQ]
   rw[hr,if_pos hx]
   grind
  ·simp only[hx,decide_false]at h
   have ih:=vk (g:=g) hn.2 (show jE r n=some f from h)
   grind [nv,zB]
theorem lY{n:Bs}{e:Int}(h:s.find n r=(some f,e)):jE s.files n=some f/\e=0:=by
 grind [be.find]
theorem xr{k:Nat}(h:zB fs<=s.P+k):(s.gZ fs u).1.P<=s.P+k:=LS
theorem ER(s:be)(n:Bs):(s.create n).1.P<=s.P+1:=by
 unfold be.create;split
 ·exact gk _
 ·split
  ·refine xr ?_;rw[Qw];exact ar _
  grind
theorem LV(hn:(s.files.map (·.1)).Nodup)(n ys:Bs):(s.append n ys).1.P<=s.P:=by
 unfold be.append
 split
 ·rename_i f e hf;have hg:=(lY hf).1;split
  ·exact ar _
  ·split
   ·exact ar _
   ·refine xr (k:=0) ?_;have h1:=vk (g:=⟨f.data++ys,f.last⟩) hn hg;show zB _<=zB _+0;dsimp only at h1;omega
 grind
theorem OW(hn:(s.files.map (·.1)).Nodup)(hl:∀x∈s.files,x.2.last<=x.2.data.length)(n:Bs):(s.sync n).1.P<=s.P:=by
 unfold be.sync
 split
 ·rename_i f e hf;have hg:=(lY hf).1;split
  ·exact ar _
  ·refine xr (k:=0) ?_;have h1:=vk (g:=⟨f.data,f.data.length⟩) hn hg;have h2:f.last<=f.data.length:=by
    grind [jE,bk]
   show zB _<=zB _+0;dsimp only at h1;by_cases h3:f.last=0
   ·rw[if_pos h3]at h1;split at h1<;>omega
   ·rw[if_neg h3,if_neg av]at h1;omega
 grind
theorem YZ(s:be)(n:Bs):(s.remove n).1.P<=s.P:=by
 unfold be.remove;split
 ·exact ar _
 ·exact xr (k:=0) (EP _ _)
theorem ar7{n:Bs}{l:List (Bs×bF)}(h:jE l n=some f):zB (ku l n)+(if f.last=0 then 1 else 0)<=zB l:=by
 induction l<;>grind [jE,ku,zB,EP]
theorem TM{l:List (Bs×bF)}{n m:Bs}(me:m≠n):jE (ku l n) m=jE l m:=by
 grind [jE,ku]
theorem Y0(m:Bs):(s.rename n m).1.P<=s.P:=by
 unfold be.rename
 split
 ·rename_i f e hf;have hg:=(lY hf).1;split
  ·exact ar _
  ·refine xr (k:=0) ?_;unfold be.renamed;split
   ·exact ar _
   ·rename_i me;rw[Qw];have h1:=ar7 (l:=ku s.files m) (n:=n) (f:=f) (by grind [TM]);have h2:=EP s.files m;have h3:zB [(m,f)]=if f.last=0 then 1 else 0:=by grind [zB]
    show _<=zB _+0;omega
 grind
theorem OX(hn:(s.files.map (·.1)).Nodup)(n:Bs)(k:Int):(s.truncate n k).1.P<=s.P+1:=by
 unfold be.truncate
 split
 ·rename_i f e hf;have hg:=(lY hf).1;split
  ·exact gk _
  ·split
   ·exact gk _
   ·refine xr ?_;have h1:=vk (g:=⟨f.data.take k.toNat,min f.last k.toNat⟩) hn hg;show zB _<=zB _+1;dsimp only at h1;split at h1<;>split at h1<;>omega
 grind
theorem ar8(s:be)(k:Int):(s.ji k).P<=s.P:=by
 unfold be.ji be.P zB
 rw[List.countP_map]
 apply List.countP_mono_left
 grind [nw]
theorem a69(s:be)(n:Bs)(i j:Int):(s.read n i j).1.P<=s.P:=by
 unfold be.read
 split
 ·split
  ·exact ar _
  ·exact xr (k:=0) (ar _)
 grind
theorem Qx(h:s.ok):s.files.length<=s.P+s.used:=by
 rw[h.vX];have key:∀l:List (Bs×bF),(∀x∈l,x.2.last<=x.2.data.length)->l.length<=zB l+gf l:=by
  intro l;induction l<;>grind [zB,gf]
 exact key s.files h.last
theorem Qy{l:List (Bs×bF)}{n:Bs}(h:jE l n=some f):∃A B,l=A++(n,f)::B:=by
 unfold jE at h
 obtain⟨x,hx,rfl⟩:=bk.1 h
 obtain⟨A,B,h1⟩:=List.append_of_mem (Y hx)
 grind
theorem Qz{n:Bs}(h:(s.find n r).2=71):n∉s.files.map (·.1)/\dy n=true:=by
 grind [be.find,jE,Option.map_eq_none_iff]
theorem ET(h:s.ok)(n:Bs):(s.create n).1.ok:=by
 unfold be.create;split
 ·exact h
 ·split
  ·rename_i h1;obtain⟨h2,h3⟩:=Qz h1;exact h.gZ (h.add h2 h3)
  ·exact h
theorem aP8(h:s.ok){n:Bs}{f':bF}(hg:jE s.files n=some f)(u:Nat)(hu:u+f.data.length=s.used+f'.data.length)(hle:u<=s.cap)(hl:f'.last<=f'.data.length):(s.gZ (nv s.files n f') u).1.ok:=by
 obtain⟨A,B,hs⟩:=Qy hg
 refine h.gZ ?_
 have jd:=h.nd
 rw[hs]at jd
 have:=h.set hs u hu hle hl
 grind [Dq]
theorem ar9(h:s.ok){n:Bs}(hg:jE s.files n=some f):f.data.length<=s.used/\f.last<=f.data.length:=by
 obtain⟨A,B,hs⟩:=Qy hg;exact⟨(h.len hs).1,(h.len hs).2.1⟩
theorem LW(h:s.ok)(n ys:Bs):(s.append n ys).1.ok:=by
 unfold be.append;exact aI3
theorem EU(h:s.ok)(n:Bs):(s.sync n).1.ok:=by
 unfold be.sync;split
 ·rename_i f e hf;have hg:=(lY hf).1;split
  ·exact h
  ·exact aP8 h hg _ U h.le (ar _)
 ·exact h
theorem Y1(h:s.ok)(n:Bs):(s.remove n).1.ok:=by
 unfold be.remove;split
 ·exact h
 ·exact h.gZ (h.del n)
theorem Y2(h:s.ok)(n m:Bs):(s.rename n m).1.ok:=by
 unfold be.rename;split
 ·rename_i f e hf;have hg:=(lY hf).1;have he:=(lY hf).2;split
  ·exact h
  ·refine h.gZ (h.renamed hg ?_)
   grind [be.find]
 ·exact h
theorem OY(h:s.ok)(n:Bs)(k:Int):(s.truncate n k).1.ok:=by
 unfold be.truncate;exact aI3
theorem a71(h:s.ok)(n:Bs)(i j:Int):(s.read n i j).1.ok:=by
 unfold be.read;split
 ·split
  ·exact h
  ·exact h.gZ ⟨h.nd,h.vX,h.le,h.cap,h.fa,h.ba,h.last,h.name⟩
 ·exact h
def BK(n:Bs):Nat:=if 21<(iV n).length then 1 else 0
def lg(l:List (Bs×bF)):Nat:=l.countP λx=>decide (21<(iV x.1).length)
def be.L(d:be):Nat:=lg d.files
theorem Y3(f:bF):lg [(n,f)]=BK n:=by
 grind [lg,BK]
theorem Y4(m:List (Bs×bF)):lg (l++m)=lg l+lg m:=List.countP_append
theorem QA(f:bF):lg (nv l n f)=lg l:=by
 unfold lg nv
 rw[List.countP_map]
 congr 1
 grind
theorem I4:lg (ku l n)<=lg l:=by
 grind [lg,ku,List.filter_sublist]
theorem AP{k:Nat}(h:lg fs<=s.L+k):(s.gZ fs u).1.L<=s.L+k:=LS
theorem LX(s:be)(n:Bs):(s.create n).1.L<=s.L+BK n:=by
 unfold be.create
 split
 ·grind
 ·split
  ·refine AP ?_;rw[Y4,Y3];exact ar _
  grind
theorem LY(s:be)(n ys:Bs):(s.append n ys).1.L<=s.L:=by
 unfold be.append
 split
 ·exact Zs
 grind
theorem OZ(s:be)(n:Bs):(s.sync n).1.L<=s.L:=by
 unfold be.sync
 split
 ·exact bo3
 grind
theorem O0(s:be)(n:Bs)(k:Int):(s.truncate n k).1.L<=s.L:=by
 unfold be.truncate
 split
 ·exact Zs
 grind
theorem Y5(s:be)(n:Bs):(s.remove n).1.L<=s.L:=by
 unfold be.remove;split
 ·exact ar _
 ·exact AP (k:=0) (I4 _ _)
theorem Y6(s:be)(n m:Bs):(s.rename n m).1.L<=s.L+BK m:=by
 unfold be.rename;split
 ·split
  ·exact aN5
  ·refine AP ?_;unfold be.renamed;split
   ·exact aN5
   ·rw[Y4,Y3];have h1:=I4 (ku s.files m) n;have h2:=I4 s.files m;show _<=lg _+_;omega
 ·exact aN5
theorem a73(s:be)(n:Bs)(i j:Int):(s.read n i j).1.L<=s.L:=by
 unfold be.read
 split
 ·split
  ·exact ar _
  ·exact AP (k:=0) (ar _)
 grind
theorem as0(s:be)(k:Int):(s.ji k).L<=s.L:=by
 unfold be.ji be.L lg;rw[List.countP_map];exact ar _
theorem Y8(h:(s.gZ fs u).2=0):(s.gZ fs u).1.files=fs:=by
 grind [be.gZ]
theorem Y9{l:List (Bs×bF)}{n:Bs}(h:n∉l.map (·.1)):jE (l++[(n,f)]) n=some f:=by
 grind [jE]
theorem TN{l:List (Bs×bF)}{n:Bs}{g:bF}(h:jE l n=some f):jE (nv l n g) n=some g:=by
 induction l<;>grind [jE,nv]
theorem TO{n d:Bs}(h:(s.write n d).2=0)(hd:d.length≠0):∃f,jE (s.write n d).1.files n=some f/\f.last=0/\f.data.length≠0:=by
 grind [be.write,be.create,Qz,Y8,Y9,be.append,TN,be.find]
theorem as1(h:s.ok)(n d:Bs):(s.write n d).1.ok:=by
 grind [be.write,ET,LW]
theorem QB(h:s.ok)(n d:Bs):(s.write n d).1.P<=s.P+1:=by
 unfold be.write;split
 ·exact ER s n
 ·exact aj (LV (ET h n).nd n d) (ER s n)
theorem as2(s:be)(n d:Bs):(s.write n d).1.L<=s.L+BK n:=by
 grind [be.write,LX,LY]
theorem Y'(h:s.ok){n:Bs}(hg:jE s.files n=some f)(hl:f.last=0)(hd:f.data.length≠0)(h0:(s.sync n).2=0):(s.sync n).1.P+1<=s.P:=by
 unfold be.sync at h0 ⊢
 split at h0
 ·rename_i f' e hf;have PA:=(lY hf).1;rw[hg]at PA;cases PA;split at h0
  ·omega
  ·rename_i h4
   rw[if_neg h4]
   unfold be.P
   rw[Y8 h0]
   have h1:=vk (g:=⟨f.data,f.data.length⟩) h.nd hg
   grind
 grind [be.find]
theorem a74(h:s.ok)(st:eH):(s.step st).1.ok:=by
 grind [be.step,Y1,as1,EU,Y2,OY]
def LZ(st:eH):Nat:=if st.op=1\/st.op=3\/st.op=4 then 0 else if st.op=2/\st.data.length≠0 then 0 else 1
def Ca(ss:List eH):Nat:=(ss.map LZ).sum
def CC(st:eH):Prop:=(st.op=2->BK st.name=0)/\(st.op=4->BK st.uc=0)
def xt:List eH->Prop
 |[]=>True
 |st::r=>(st.op=2->∃st2 r2,r=st2::r2/\st2.op=3/\st2.name=st.name)/\xt r
theorem a81(s:be){st:eH}(h:CC st):(s.step st).1.L<=s.L:=by
 unfold be.step;split
 ·exact Y5 _ _
 ·split
  ·rename_i h2;have:=as2 s st.name st.data;rw[h.1 h2]at this;exact this
  ·split
   ·exact OZ _ _
   ·split
    ·rename_i h4;have:=Y6 s st.name st.uc;rw[h.2 h4]at this;exact this
    grind [O0]
theorem a83(h:s.ok)(st:eH):(s.step st).1.P<=s.P+(if st.op=2 then 1 else LZ st):=by
 unfold be.step
 split
 ·grind [YZ]
 ·split
  ·grind [QB]
  ·split
   ·exact aj (OW h.nd h.last _) (aT _ _)
   ·split
    ·grind [Y0]
    ·rename_i h1 h2 h3 h4;have:LZ st=1:=by grind [LZ]
     rw[this];exact OX h.nd _ _
theorem I5:∀(m:Nat) (ss:List eH),ss.length<=m->∀(s:be) (i:Nat),s.ok->xt ss->(∀st∈ss,CC st)->(s.run ss i).1.ok/\(s.run ss i).1.P<=s.P+Ca ss+1/\(s.run ss i).1.L<=s.L
 |_,[],_,s,i,h,_,_=>⟨h,aj (aT _ _) (gk _),ar _⟩
 |m+1,st::r,hm,s,i,h,hp,hs=>by
  rw[be.run];have hk:=a74 h st;have hP:=a83 h st;have hL:=a81 s (hs st nH);have hc:Ca (st::r)=LZ st+Ca r:=U;have hE:LZ st<=1:=by grind [LZ]
  by_cases he:(s.step st).2≠0
  ·rw[if_pos he];refine⟨hk,?_,hL⟩;dsimp only;split at hP<;>omega
  ·rw[if_neg he];have he:(s.step st).2=0:=av;rw[ax]at hm;by_cases h2:st.op=2/\st.data.length≠0
   ·obtain⟨st2,r2,rfl,h3,h4⟩:=hp.1 h2.1;have iz:s.step st=s.write st.name st.data:=Oc;rw[iz]at he hk hL ⊢;obtain⟨f,hf1,JN,hf3⟩:=TO he h2.2;have hPw:=QB h st.name st.data;generalize(s.write st.name st.data).1=s1 at*;rw[be.run];have JM:s1.step st2=s1.sync st.name:=Oc;rw[JM];have Nk:Ca (st2::r2)=LZ st2+Ca r2:=U;have VN:LZ st2=0:=by grind [LZ]
    have hL2:=OZ s1 st.name;by_cases he2:(s1.sync st.name).2≠0
    ·rw[if_pos he2]
     have:=OW hk.nd hk.last st.name
     grind [EU]
    ·rw[if_neg he2]
     have:=Y' hk hf1 JN hf3 av
     rw[ax]at hm
     obtain⟨k1,k2,k3⟩:=I5 m r2 av (s1.sync st.name).1 (i+1+1) (EU hk _) hp.2.2 (λx hx=>hs x a08)
     grind
   ·have hPs:(s.step st).1.P<=s.P+LZ st:=by
     grind [LZ]
    obtain⟨k1,k2,k3⟩:=I5 m r av (s.step st).1 (i+1) hk hp.2 (λx hx=>hs x a08);exact⟨k1,by omega,by omega⟩
theorem Za(h:s.ok){ss:List eH}(hp:xt ss)(hs:∀st∈ss,CC st):(s.ml ss).1.ok/\(s.ml ss).1.P<=s.P+Ca ss+1/\(s.ml ss).1.L<=s.L:=by
 unfold be.ml
 split
 ·grind
 ·exact I5 _ ss (ar _) s 0 h hp hs
end
end Go.Proofs
