/- A part of the proof of LabPlays. -/
import Derived.Test.YtcicblljnenhoaaGreatDoorQE
open Bool renaming false->aQ,false_eq_true->di,true->aP
open Go renaming Addr->aX,Ending->aZ,Frame->bc,Oper->aW,Operand->aY,Program->aT,Value->aR,World->aV,execOp->aU
open Go.Instr renaming checkKey->iI
open Go.IntKind renaming bits->iM,i64->eu,signed->jX,u64->ee,wrap->jm
open Go.Lib renaming countByte->cZ,decDigits->bB,fields->fy,itoa->ib,itoa_length_le->eJ,nDigits->gJ
open List renaming Perm.cons->iJ,Perm.swap->fM,append_assoc->cB,append_nil->bj,cons_append->bh,drop_eq_getElem_cons->bP,drop_of_length_le->cx,filterMap_cons->fZ,findIdx?_eq_some_iff_getElem->cA,flatMap_cons->ei,foldl_cons->eD,getElem?_eq_getElem->bX,getElem?_map->eX,getElem_map->gG,getElem_mem->bE,length->eP,length_append->bK,length_cons->bL,length_filter_le->eF,length_map->bF,length_nil->dU,length_pos_iff->gL,length_set->fJ,length_take->dG,map_append->dx,map_congr_left->cY,map_cons->bN,map_map->dK,map_set->fL,mem_append->du,mem_cons->cW,mem_filter->eM,mem_map->cu,mem_singleton->cK,nil_append->bk,nodup_append->fN,nodup_cons->gy,perm_append_comm->cH,sum_cons->fS,take_add_one->cg,take_append_drop->dV,take_length->bV,take_of_length_le->bI,take_succ_cons->gK,take_succ_eq_append_getElem->dO
open Nat renaming add_mul->ic,blt->bM,le_add_right->bW,le_of_ble_eq_true->bH,le_refl->bz,le_trans->bo,mul_le_mul_right->eB,succ_le_succ->gH,zero_add->bT,zero_le->bp
open Go.Op renaming equalIn->gq
open Option renaming getD_some->dz,none->aO,some->aN,some.inj->fo
open Go.Sem renaming run->gz
open Go.Proofs.Tryz renaming prog->be,underlying3->gE,underlying9->gD
open UInt8 renaming ofNat->cV
open Go.World renaming cell?->gl
open _root_ renaming Array->ar,Bool->ai,Except->aB,Int->ae,List->Y,Nat->ab,Option->ah,String->aC,UInt32->av,UInt8->au,Unit->aA,absurd->aD,congrArg->aH,decide_eq_false->aM,decide_eq_true->aK,if_false->aI,if_neg->aj,if_pos->ao,inferInstance->ax
set_option linter.all false
set_option maxHeartbeats 4000000
namespace Go.Proofs
open Go.Sl
set_option maxRecDepth 8000
section
variable{d:cd}{n p N j:ab}{cap e:ae}{ts:Y av}{a:jY}{s:Seen}{m:Mk}(l:Y ca)
theorem HF:∀L:Y Eb,9*(pw L).length<=(L.map λx=>x.jE.data.length).sum
 |[]=>bz _
 |x::r=>by
  have ih:=HF r;have h:=xd x.jE.data [];exact ba1
theorem xe:9*(ni l).length<=cq l:=by
 refine bo (HF _) (bo (Nat.le_of_eq ?_) (Ro 1 l));exact((jV _ _).map _).sum_nat
theorem IC{p:Place}{body:Bs}{k:Bs}(h:s.key=k/\s.may=aP)(hf:(gk p body s).2=aP):(gk p body s).1.key=k/\(gk p body s).1.may=aP:=by
 grind [Bf,gk]
theorem Uu(p:Place)(body:Bs)(k:Bs):∀(l acc:Y Seen),(∀s∈l,s.key=k/\s.may=aP)->(∀s∈acc,s.key=k/\s.may=aP)->∀s∈l.foldl (λacc s=>if(gk p body s).2=aP then nD acc (gk p body s).1 else acc) acc,s.key=k/\s.may=aP
 |[],_,_,ha=>ha
 |s::r,acc,hl,ha=>by
  rw[eD];refine Uu p body k r _ (λx hx=>hl x N0) ?_;split
  ·rename_i hf;exact Gq _ _ _ ha (IC (hl s dW) hf)
  ·exact ha
theorem O'{d:fu}(h:d.ok)(p:Place)(body:Bs):(d.settled p body).ok:=by
 refine⟨?_,?_,?_⟩
 ·have Cl:((d.settled p body).map (·.1)).Sublist (d.map (·.1)):=by
   unfold fu.settled;have:∀l:fu,((l.filterMap λx=>if GK p body x.2=[]then aO else aN (x.1,GK p body x.2)).map (·.1)).Sublist (l.map (·.1)):=by
    intro l;induction l<;>grind
   exact this d
  exact h.nd.sublist Cl
 ·intro x hx s hs;unfold fu.settled at hx;obtain⟨z,hz,h1⟩:=List.mem_filterMap.1 hx;split at h1
  ·cases h1
  ·cases h1;exact Uu p body z.1 z.2 [] (h.may z hz) dW s hs
 grind [fu.settled]
theorem Sv{d:fu}(h:d.ok)(p:Place)(body:Bs):(d.settle p body).1.ok:=by
 grind [fu.settle,O']
theorem ap5(l:Y Src):(DK l).ok/\eZ (DK l)<=jF l:=by
 obtain⟨h1,h2⟩:=yi l;have h3:=sk l;refine⟨?_,?_⟩
 ·unfold DK nR;exact yh (I:=fu.ok) (λz s p _ h=>Sv h p _) l _ _ h1
 ·exact ry l _ _ bw
theorem ap6:(Is l).ok/\9*eZ (Is l)<=cq l:=by
 have h:=rP (d:=[]) ⟨by simp,by simp,by simp⟩ ((ni l).map jW)
 grind [xe,Is,eZ]
theorem ap7:(vJ l).ok/\9*eZ (vJ l)<=cq l:=by
 grind [R4,xe,vJ]
theorem HG(h:d.ok):∀f∈d.all,f.data.length<=4194304:=λf hf=>(qg h hf).2.1
theorem C0(h:d.ok):cq d.all<=4194304:=by
 rw[si h,<-h.yA];exact bo h.le h.cap
theorem ap8(h:d.ok)(size:ae):mL d (mJ d size).1 1000001/\eS (mJ d size).2:=by
 unfold mJ;split
 ·exact bi7
 ·split
  ·exact bi7
  ·split
   ·rename_i e he
    refine⟨(mL.refl h).mono bw,?_⟩
    unfold qT at he
    split at he
    ·grind
    ·split at he
     ·exact ap9
     ·split at he
      ·exact ap9
      ·cases he
   grind [Uo,W6,ap1]
theorem Xb{x:gW}(h:zZ x N)(e:ae):zZ (x.sw e) N:=⟨⟨h.k.wr,h.k.dir,h.k.sum⟩,h.pl,h.cf⟩
theorem aq0{x:gW}(h:x.R5):x.wr0.lZ:=⟨by show x.ed.toNat<=_;have:=h.2.1;omega,by show x.every.toNat<=_;have:=h.2.2.2;omega,by grind,bz _,bz _⟩
theorem yr{x:gW}(h:zZ x N)(hN:1400000<=N)(hd:d.ok):zZ (x.merge d).1.1 N/\mL d (x.merge d).1.2 1000001/\eS (x.merge d).2/\mL d (WD.close (x.wr,d)).1.2 0/\(mJ (WD.close (x.wr,d)).1.2 x.ed).1.ok/\(mJ (WD.close (x.wr,d)).1.2 x.ed).1.P<=d.P+1000001:=by
 have hc:=J1 (x:=(x.wr,d)) hd;have hm:=ap8 hc.ok x.ed;have hcm:=hc.trans hm.1;refine⟨?_,?_,?_,hc,hm.1.ok,by have:=hcm.P;omega⟩;all_goals unfold gW.merge
 ·split
  ·exact h
  ·split
   ·exact h
   ·have h1:zZ (x.mg1 d).1.1 N:=Xb (x:={x with wr:=(WD.close (x.wr,d)).1.1}) ⟨⟨yJ _ h.k.wr,h.k.dir,h.k.sum⟩,h.pl,h.cf⟩ _;have h2:zZ (pY (x.mg1 d)).1.1 N:=by
     unfold pY;split
     ·unfold gW.mg2;dsimp only;have hk:((x.mg1 d).1.1).ed=x.ed:=U;have Vl:(x.mg1 d).1.2=(WD.close (x.wr,d)).1.2:=U;have hko:=ap7 (mJ (x.mg1 d).1.2 (x.mg1 d).1.1.ed).1.all;rw[hk,Vl]at hko ⊢;have hu:=C0 hm.1.ok;exact⟨⟨h1.k.wr,hko.1,bo (Nat.le_of_mul_le_mul_left (bo hko.2 (by omega:_<=9*1400000)) eK) hN⟩,aO0 (HG hm.1.ok),h1.cf⟩
     ·exact h1
    exact⟨⟨aq0 h2.cf,h2.k.dir,h2.k.sum⟩,h2.pl,h2.cf⟩
 ·split
  ·exact(mL.refl hd).mono bw
  ·split
   ·exact(mL.refl hd).mono bw
   ·unfold pY;dsimp only;split
    ·exact hcm.mono bw
    ·exact hc.mono bw
 ·split
  ·(constructor<;>first|decide|(dsimp only;decide))
  ·split
   ·(constructor<;>first|decide|(dsimp only;decide))
   ·unfold pY;dsimp only;split
    ·exact hm.2
    ·exact O5 _
def XK(l:Y Src):ab:=(l.map λs=>s.gw.length).sum
theorem bO7(s:Src):9*(iZ s).length<=s.data.length+9*s.gw.length:=by
 grind [iZ,xe,cq]
theorem aq1(l:Y Src):9*kU l<=jF l+8*XK l:=by
 unfold kU jF XK;induction l with
 |nil=>exact bz _
 |cons x r ih=>
  simp only[bN,fS];have:=bO7 x;omega
theorem aq2{l:Y ca}{f:ca}{s:Src}(h:qY l f=aN s):9*s.gw.length<=f.data.length:=by
 grind [qY,iF,jD,Hz]
theorem bw7:jF (uY l)+8*XK (uY l)<=2*cq l:=by
 have key:∀(L l:Y ca),jF (l.filterMap (qY L))+8*XK (l.filterMap (qY L))<=2*cq l:=by
  intro L l;induction l with
  |nil=>exact bp _
  |cons f r ih=>
   have h1:cq (f::r)=f.data.length+cq r:=NG;rw[h1,fZ];split
   ·omega
   ·rename_i s hs
    have a1:=zI hs
    have a2:=aq2 hs
    grind [jF,XK]
 exact key l l
theorem aq3(fs:Y ca):∀l,XK (sr l fs)=XK l:=by
 induction fs with
 |nil=>exact λ_=>rfl
 |cons f r ih=>
  intro l
  refine(ih (l.map (thenS f))).trans ?_
  grind [XK,cY,G5]
theorem aq4{l l':Y Src}(h:l'.map Src.rest=l.map Src.rest):XK l'=XK l:=by
 have e:∀l:Y Src,XK l=((l.map Src.rest).map λx=>x.2.2.length).sum:=λl=>by unfold XK;rw[dK];rfl
 rw[e,e,h]
theorem HH{l:Y ca}{f:ca}(h:f∈l):f.data.length<=cq l:=by
 induction l<;>grind [cq]
theorem Sw{l:Y ca}{z:Mk×fu}(h:qR l cap=.ok z):z.2.ok/\eZ z.2<=1400000/\z.2.pl/\∃ts,gV l cap ts=.ok z.1:=by
 unfold qR at h;split at h
 ·cases h
 ·rename_i ha;obtain⟨qM,KC,hm3⟩:=zH (Ou ha);split at h
  ·cases h
  ·rename_i m hm;cases h;obtain⟨_,hr2,hr3⟩:=G4 hm;have j7:=T6 (Bn qM).2;have sS:=Bm j7;have hno:((jO (uY l)).map (·.no)).Nodup:=by
    have e:(jO (uY l)).map (·.no)=(uY l).map (·.no):=by
     have:=aH (List.map λx:av×Bs×Y Ptr=>x.1) sS;rw[dK,dK]at this;exact this
    grind
   have h1:=ap5 (sr (jO (uY l)) (qX m.now));have h2:=G7 (qX m.now) (jO (uY l)) hno;have h3:=wP sS;have h4:=aq4 sS;have h5:=aq3 (qX m.now) (jO (uY l));have h6:=bw7 l;have h7:=oX m.now;have h8:=aq1 (sr (jO (uY l)) (qX m.now));have h9:=yi (sr (jO (uY l)) (qX m.now));refine⟨h1.1,?_,?_,_,hm⟩
   ·refine ry _ _ _ ?_;have:=h9.2;have:=h2.2;omega
   ·refine ao7 (ao8 (Sq (aO4 λf hf=>?_)) λf hf=>?_)
    ·have:=HH hf;omega
    ·have:=HH hf;omega
theorem BG{α:Type}{f:Mk->α->aB ae Mk}{d:ab}:∀(l:Y α) (m m':Mk),(∀x∈l,∀m m',f m x=.ok m'->m'.cG<=m.cG+d)->mj f l m=.ok m'->m'.cG<=m.cG+d*l.length
 |[],m,m',_,e=>by cases e;exact bz _
 |x::r,m,m',h,e=>by
  unfold mj at e;split at e
  ·cases e
  ·rename_i m1 h1
   have h2:=BG r m1 m' (λy hy=>h y D9) e
   have h3:=h x dW _ _ h1
   grind [Nat.mul_succ]
theorem HI:∀(l:Y ab) (x:ab),x∈l->x<=l.sum
 |y::r,x,h=>by
  rw[fS];rcases cW.1 h with rfl|h
  ·omega
  ·have:=HI r x h;omega
theorem Xc{l:Y ca}(e:gV l cap ts=.ok m):m.cG<=9000000*l.length:=by
 have hl:∀x∈yC 1 l,x.jE.data.length<=4194304:=by
  intro x hx;have h1:mY l=aP/\(cq l:ae)<=cap/\cap<=4194304:=zH (ts:=ts) bQ;have h2:=O0 1 l;have h3:x.jE.data.length∈(yC 1 l).map λx=>x.jE.data.length:=cu.2 ⟨x,hx,U⟩;have h4:x.jE.data.length<=((yC 1 l).map λx=>x.jE.data.length).sum:=HI _ _ h3;omega
 unfold gV at e;split at e
 ·cases e
 ·split at e
  ·cases e
  ·rename_i m1 h1;split at e
   ·cases e
   ·rename_i m2 h2
    have k1:=BG (d:=0) _ _ _ (λx _ m m' e=>(oM e).cG) h1
    have k2:=BG (d:=9000000) _ _ _ (λx hx m m' e=>by
     unfold s8 at e
     split at e
     ·grind
     ·split at e
      ·cases e
      ·rename_i m3 h3;cases e;exact(Dg (hl x hx) h3).cG) h2
    have k3:=BG (d:=0) _ _ _ (λx _ m m' e=>by
     unfold sf at e
     split at e
     ·grind
     ·split at e
      ·cases e
      ·rename_i m3 h3;cases e;exact(oM h3).cG) e
    grind [Bc]
structure Ops(d:cd)(r:cd×aB ae Sal):Prop where
 go:mL d r.1 4194306
 er:∀e,r.2=.error e->eS e
 dir:∀z,r.2=.ok z->z.dir.ok/\eZ z.dir<=1400000/\z.dir.pl/\z.cG<=9000000*d.files.length/\z.dP<=4194304
theorem LL(h:d.ok)(e:gV d.all d.cap ts=.ok m):mL d (d.nO m.steps).1 4194305/\m.dP<=4194304/\m.cG<=9000000*d.files.length:=by
 have h1:=W4 e;have h2:=C0 h;have h3:=Xc e;rw[mH]at h3;exact⟨(Uo h h1.1).mono bw,by omega,h3⟩
theorem aq5(h:d.ok):Ops d (uU d):=by
 unfold uU;split
 ·exact aq6
 ·split
  ·rename_i e he;refine⟨(mL.refl h).mono bw,λe' Ib=>?_,λz hz=>by cases hz⟩;cases Ib;rcases wK he with rfl|rfl<;>(constructor<;>first|decide|(dsimp only;decide))
  ·rename_i m hm;have h1:=LL h hm;split
   ·exact bi8
   ·refine⟨h1.1.mono bw,(λe he=>by cases he),λz hz=>?_⟩;cases hz;have h2:=ap6 (d.nO m.steps).1.all;have h3:=C0 h1.1.ok;exact⟨h2.1,by grind,aO1 (HG h1.1.ok),h1.2.2,h1.2.1⟩
theorem aq7(h:d.ok):Ops d (zJ d):=by
 unfold zJ;split
 ·exact aq6
 ·split
  ·rename_i e he;refine⟨(mL.refl h).mono bw,λe' Ib=>?_,λz hz=>by cases hz⟩;cases Ib;unfold qR at he;split at he
   ·exact ap9
   ·split at he
    ·rename_i e2 h2;cases he;rcases wK h2 with rfl|rfl<;>(constructor<;>first|decide|(dsimp only;decide))
    ·cases he
  ·rename_i z hz;obtain⟨h2,h3,h4,ts,h5⟩:=Sw hz;have h1:=LL h h5;split
   ·exact bi8
   ·refine⟨h1.1.mono bw,(λe he=>by cases he),λz hz=>?_⟩
    grind
theorem Pa(h:d.ok)(lj:ai):Ops d (mC d lj):=by
 grind [mC,aq7,aq5]
theorem aO6(h:d.ok):mL d (lI d).1 0/\eS (lI d).2:=⟨LI _ _ h,Su _ _⟩
theorem BH(h:d.ok)(ed every:ae)(lj:ai):
 mL d (gX d ed every lj).1 4194306/\(∀e,(gX d ed every lj).2=.error e->eS e)/\
 ∀z,(gX d ed every lj).2=.ok z->zZ z.1 1400000/\z.2.cG<=9000000*d.files.length/\z.2.dP<=4194304:=by
 have h1:=Pa h lj
 have h2:=aO6 h1.go.ok
 unfold gX
 split
 ·exact aq6
 ·rename_i hc;have hc:=Classical.not_not.1 hc;split
  ·rename_i e he;exact⟨h1.go,λe' Ib=>by cases Ib;exact h1.er e he,λz hz=>by cases hz⟩
  ·rename_i z hz;have h3:=h1.dir z hz;split
   ·exact⟨(h1.go.trans h2.1).mono bw,λe he=>by grind,λz hz=>by cases hz⟩
   ·refine⟨(h1.go.trans h2.1).mono bw,(λe he=>by cases he),λy hy=>?_⟩;cases hy;exact⟨⟨⟨by
     have:=hc.2.1;have:=hc.2.2.2;exact⟨by grind,by grind,by grind,bz _,bz _⟩,h3.1,h3.2.1⟩,h3.2.2.1,hc⟩,h3.2.2.2⟩
theorem Pb:∀(r:Y ca) (l fs:Y (Bs×cN)),laid r l=aN fs->(l.map (·.1)).Nodup->(∀x∈l,x.2.last<=x.2.data.length)->(fs.map (·.1)).Nodup/\(∀x∈fs,x.2.last<=x.2.data.length)/\fs.length=l.length+r.length/\∀x∈fs,x∈l\/x.1∈r.map (·.name)
 |[],l,fs,h,hn,hl=>by
  cases h
  grind
 |x::r,l,fs,h,hn,hl=>by
  unfold laid at h;split at h
  ·cases h
  ·rename_i hx
   obtain⟨a,b,c,d⟩:=Pb r _ _ h (by
    grind) (λy hy=>by
    grind)
   grind
theorem Pc{l:Y ca}{s:cd}(h:mh cap l=(aN s,e)):s.ok/\s.files.length<=200:=by
 unfold mh at h;split at h
 ·cases h
 ·rename_i h1;split at h
  ·cases h
  ·rename_i fs hf;split at h
   ·cases h
   ·rename_i h2
    cases h
    obtain⟨a,b,c,d⟩:=Pb _ _ _ hf List.nodup_nil (λx hx=>by cases hx)
    have h3:l.any (λx=> !eO x.name)=aQ:=by
     grind
    rw[List.any_eq_false]at h3
    refine⟨⟨a,U,by grind,by grind,bp _,bp _,b,λx hx=>?_⟩,by grind⟩
    grind
theorem aq8(cap:ae)(l:Y ca):eS (mh cap l).2:=by
 rcases zO cap l with(h|h|h)|⟨s,h⟩<;>rw[h]<;>(constructor<;>first|decide|(dsimp only;decide))
theorem bX6(m:Dm)(d:cd):eS (m.do d).2:=by
 unfold Dm.do
 split
 ·unfold Dm.ref;dsimp only;split<;>(try split)<;>(try split)<;>(constructor<;>first|decide|(dsimp only;decide))
 grind [aq8]
abbrev jY.may(a:jY):Prop:=(∀n∈a.iV,n<=1000000000)/\(∀t∈a.texts,t.length<=100000)/\a.texts.length<=100000/\∀n k x,a=.dm (.flip n k x)->x<=255
structure l9.in(x:l9)(p n:ab):Prop where
 ok:x.ej.ok
 P:x.ej.P<=p
 L:x.ej.L<=200
 p2:200<=p
 n1:1400000<=n
 st:∀s,x.vN=aN s->zZ s n
def jY.y:jY->ab
 |.l8 ..=>14|.put ..=>4|.del ks=>4+2*ks.length|.merge=>4|_=>0
theorem l9.in.step{x:l9}(h:x.in p n)(hd:mL x.ej d j){s:ah gW}{p' n':ab}(hp:p+j<=p')(hn:n<=n')(hs:∀t,s=aN t->zZ t n'):l9.in ⟨d,s⟩ p' n':=
 ⟨hd.ok,by have:=hd.P;have:=h.P;grind,bo hd.L h.L,by have:=h.p2;omega,bo h.n1 hn,hs⟩
theorem l9.in.new{x:l9}{p' n':ab}(h:x.in p n)(hp:p<=p')(hn:n<=n'){q:ah cd×ae}(hq:∀s e,q=(aN s,e)->s.ok/\s.files.length<=200):(x.new q).1.in p' n':=by
 have h0:x.in p' n':=⟨h.ok,bo h.P hp,h.L,bo h.p2 hp,bo h.n1 hn,λs hs=>(h.st s hs).mono hn⟩;unfold l9.new;split
 ·rename_i d;obtain⟨h1,h2⟩:=hq d 0 U;exact⟨h1,bo (bv1 d.files) (by have:=h0.p2;omega),bo (List.countP_le_length (l:=d.files)) h2,h0.p2,h0.n1,λs hs=>by cases hs⟩
 ·exact h0
theorem bw8(m:Dm)(d:cd):∀s e,m.do d=(aN s,e)->s.ok/\s.files.length<=200:=by
 grind [Dm.do,Pc]
theorem Uv(h:d.ok)(k:ae)(hk:k<=1000000000):mL d (d.fail k).1 0/\eS (d.fail k).2:=by
 unfold cd.fail;split
 ·exact bi9
 ·exact⟨⟨⟨h.nd,h.yA,h.le,h.cap,by grind,h.ba,h.last,h.name⟩,bz _,bz _⟩,by constructor<;>first|decide|(dsimp only;decide)⟩
theorem Pd(h:d.ok)(k:ae)(dn:ai)(hk:k<=1000000000):mL d (d.break k dn).1 0/\eS (d.break k dn).2:=by
 unfold cd.break;split
 ·exact bi9
 ·exact⟨⟨⟨h.nd,h.yA,h.le,h.cap,h.fa,by grind,h.last,h.name⟩,bz _,bz _⟩,by constructor<;>first|decide|(dsimp only;decide)⟩
theorem BV{x:l9}(h:x.in p n)(ha:a.may):(x.do a).1.in (p+300000*a.y) (n+a.y):=by
 have hd:=h.ok;have ask:∀(f:gW->(gW×cd)×Bs) (j p' n':ab),p+j<=p'->n<=n'->(∀s,zZ s n->zZ (f s).1.1 n'/\mL x.ej (f s).1.2 j)->(x.pT f).1.in p' n':=by
  intro f j p' n' hp hn hf;unfold l9.pT;cases hs:x.vN with
  |none=>exact⟨h.ok,bo h.P bw,h.L,by have:=h.p2;omega,bo h.n1 hn,λs h2=>by grind⟩
  |some s=>
   obtain⟨h1,h2⟩:=hf s (h.st s hs);exact h.step h2 hp hn λt ht=>by grind
 cases a with
 |Ei k=>exact h.new (bW _ _) (bW _ _) λs e he=>Pc he
 |l8 t k1 k2=>
  obtain⟨h1,_,h3⟩:=BH hd k1 k2 (t==kM);refine h.step h1 (show p+4194306<=p+300000*14 by omega) (bW _ _) λs hs=>?_;split at hs
  ·rename_i z hz;cases hs;exact(h3 z hz).1.mono (by have:=h.n1;omega)
  ·cases hs
 |put k v=>
  exact ask _ 1 _ _ (show p+1<=p+300000*4 by omega) (bW _ _) λs hs=>by
   obtain⟨a,b,_⟩:=ER hs hd k v;exact⟨a.mono (show n+1<=n+4 by omega),b⟩
 |del ks=>
  exact ask _ ks.length _ _ (show p+ks.length<=p+300000*(4+2*ks.length) by omega) (bW _ _) λs hs=>by
   obtain⟨a,b,_⟩:=vf hs hd ks;exact⟨a.mono (show n+ks.length<=n+(4+2*ks.length) by omega),b⟩
 |get k=>exact ask _ 0 _ _ (bW _ _) (bW _ _) λs hs=>⟨hs.mono (bW _ _),(BD hd k).1⟩
 |sync=>
  exact ask _ 0 _ _ (bW _ _) (bW _ _) λs hs=>by
   obtain⟨a,b,_⟩:=BE hs hd;exact aq9
 |merge=>
  exact ask _ 1000001 _ _ (show p+1000001<=p+300000*4 by omega) (bW _ _) λs hs=>by
   obtain⟨a,b,_⟩:=yr hs h.n1 hd;exact aq9
 |close=>
  exact ask _ 0 _ _ (bW _ _) (bW _ _) λs hs=>by
   obtain⟨a,b,_⟩:=yq hs hd;exact aq9
 |keys=>exact ask _ 0 _ _ (bW _ _) (bW _ _) λs hs=>⟨hs.mono (bW _ _),mL.refl hd⟩
 |all=>exact ask _ 0 _ _ (bW _ _) (bW _ _) λs hs=>⟨hs.mono (bW _ _),(BF s s.keys x.ej hd).1⟩
 |last=>exact ask _ 0 _ _ (bW _ _) (bW _ _) λs hs=>⟨hs.mono (bW _ _),mL.refl hd⟩
 |fail k=>exact h.step (Uv hd k aO7).1 (bW _ _) (bW _ _) λt ht=>(h.st t ht).mono (bW _ _)
 |brk k t=>exact h.step (Pd hd k _ aO7).1 (bW _ _) (bW _ _) λt ht=>(h.st t ht).mono (bW _ _)
 |jU k=>exact h.step (ao4 hd k) (bW _ _) (bW _ _) λt ht=>by cases ht
 |dm m=>exact h.new (bW _ _) (bW _ _) (bw8 m x.ej)
 |files=>exact h
 |read t=>exact h
 |used=>exact h
theorem Pe{x:l9}(h:x.in p n):x.ej.files.length<=p+4194304:=bj0
theorem mL.files{t:cd}(h:mL d t j):t.files.length<=d.P+j+4194304:=bj0
theorem aO8(h:s.may=aP):s.key.length<=64:=by
 grind [Seen.may]
theorem ar0{d:fu}(h:d.ok)(k:Bs):∀s∈mi d k,s.key.length<=64:=by
 intro s hs;unfold mi at hs;cases hf:d.find? (λx=>decide (x.1=k))with
 |none=>grind
 |some x=>rw[hf]at hs;exact aO8 (h.may x (List.mem_of_find?_eq_some hf) s hs).2
theorem aO9{d:fu}(h:d.ok)(k:Bs):(d.get k).1.key.length<=64:=by
 have hz:Seen.zero.key.length<=64:=eK
 have hl:(d.last k).1.key.length<=64:=by
  unfold fu.last;split
  ·exact hz
  ·rename_i mf;split
   ·exact hz
   ·have h1:=DG mf;exact ar0 h k _ (eM.1 h1).1
 grind [fu.get]
theorem yt{s:gW}(h:zZ s n):s.keys.length<=n/\∀k∈s.keys,k.length<=64:=by
 unfold gW.keys
 split
 ·grind
 ·unfold fu.keys;refine⟨?_,λk hk=>?_⟩
  ·rw[bF];exact bo (GH _) (bo (A0 _ h.k.dir.ne) h.k.sum)
  ·obtain⟨z,hz,rfl⟩:=cu.1 hk;unfold fu.live fu.vq at hz;obtain⟨q,hq,he⟩:=List.mem_filterMap.1 hz;split at he
   ·cases he;exact aO9 h.k.dir q
   ·cases he
theorem P5{x:l9}(h:x.in p n)(hp:p<=40000000000)(hn:n<=100000000)(ha:a.may):x.pre a:=by
 have hf:=Pe h;have hd:=h.ok;have hP:=h.P;refine⟨ha.1,by omega,?_⟩;cases a with
 |l8 t k1 k2=>
  obtain⟨h1,h2,h3⟩:=BH hd k1 k2 (t==kM);refine⟨λm hm=>?_,?_,λz hz=>?_,λe he=>(h2 e he).ok⟩
  ·have:=(LL hd hm).1.files;omega
  ·have:=(Pa hd (t==kM)).go.files;omega
  ·obtain⟨a,b,c⟩:=h3 z hz;exact⟨bo a.k.sum eK,bo (yt a).1 eK,by omega,by omega⟩
 |put k v=>
  intro s hs;have h1:=h.st s hs;exact⟨h1.k.wr,by have:=h1.k.sum;omega,(ER h1 hd k v).2.2.ok⟩
 |del ks=>
  refine⟨ha.2.2.1,λs hs=>?_⟩;have h1:=h.st s hs;exact⟨n,h1.k,by grind,(vf h1 hd ks).2.2.ok⟩
 |get k=>
  intro s hs;have h1:=h.st s hs;obtain⟨_,a,b⟩:=BD (x:=s) hd k;exact⟨by have:=h1.k.sum;omega,(ao5 h1.pl k).ok,a.ok,by omega⟩
 |sync=>exact λs hs=>(BE (h.st s hs) hd).2.2.ok
 |merge=>
  intro s hs;have h1:=h.st s hs;obtain⟨_,_,a,b,c,e⟩:=yr h1 h.n1 hd;refine⟨h1.cf,by have:=b.files;omega,?_,a.ok⟩;have h5:=Uh c;have h6:=c.le;have h7:=c.cap;omega
 |close=>exact λs hs=>(yq (h.st s hs) hd).2.2.ok
 |keys=>
  intro s hs;have h1:=h.st s hs;have h2:=yt h1;exact⟨by have:=h1.k.sum;omega,by omega,λk hk=>bo (h2.2 k hk) eK⟩
 |all=>
  intro s hs;have h1:=h.st s hs;have h2:=yt h1;obtain⟨_,a,b⟩:=BF s s.keys x.ej hd;have e:s.all x.ej=ll s s.keys x.ej:=U;rw[e];exact⟨by have:=h1.k.sum;omega,λk=>(ao5 h1.pl k).ok,by omega,by omega,λy hy=>⟨bo (h2.2 _ (b y hy).1) eK,bo (b y hy).2 eK⟩⟩
 |dm m=>grind
 |used=>exact bo h.ok.le h.ok.cap
 |_=>trivial
theorem fT(h:eS e):(eH e).length<=27:=by
 have h0:=h.1;have h1:=h.2;have hl:=eJ e bw bw;unfold eH;split
 ·exact(by decide:2<=27)
 ·rw[bK];have:([101,114,114,111,114,32]:Bs).length=6:=U;omega
theorem uq{s:Bs}{k:ab}(h:s.length<=k):(fw s).length<=3*k+1:=by grind [gA]
theorem Xd(h:d.ok):(lu d.all).length<=5+24*d.P+44*d.used+200*d.L:=by
 have h1:((d.all.map sC).map eP).sum=(d.files.map λx=>(sC ⟨x.1,x.2.data⟩).length).sum:=by
  unfold cd.all cd.told cd.names;rw[dK,dK];have h1:=((jh (d.files.map (·.1))).map ((eP∘sC)∘vp d λf=>f.data.length)).sum_nat;exact ba3
 have h2:∀l:Y ca,(l.flatMap sC).length=((l.map sC).map eP).sum:=bQ
 unfold lu
 rw[bK,h2,h1]
 rw[h.yA]
 unfold cd.P cd.L BB lg iq
 have key:∀l:Y (Bs×cN),(∀x∈l,x.2.last<=x.2.data.length/\eO x.1=aP/\x.2.data.length<=4194304)->(l.map λx=>(sC ⟨x.1,x.2.data⟩).length).sum<=24*(l.countP λx=>x.2.last==0)+44*(l.map λx=>x.2.data.length).sum+200*(l.countP λx=>decide (21<(fw x.1).length)):=by
  intro l;induction l with
  |nil=>grind
  |cons x r ih=>
   intro hl;have h1:=ih λy hy=>hl y D9;obtain⟨h2,h3,h4⟩:=hl x dW;have h5:x.1.length<=60:=by grind [eO]
   have h6:=uq h5;have h7:=eJ (x.2.data.length:ae) bw bw;have h8:(sC ⟨x.1,x.2.data⟩).length=(fw x.1).length+(ib (x.2.data.length:ae)).length+2:=by
    unfold sC;rw[bL,bK,bL];dsimp only;omega
   rw[List.countP_cons,List.countP_cons,bN,fS,bN,fS];by_cases h9:x.2.data.length=0
   ·have PA:x.2.last=0:=bw;have h11:(ib (x.2.data.length:ae)).length=1:=by rw[h9];first|decide|rfl|(simp[ib,bB])|(simp[ib,Lib.decDigits_length,gJ])
    simp only[PA,beq_self_eq_true,if_true];exact bj1
   ·exact bj1
 have h3:=key d.files λx hx=>⟨h.last x hx,h.name x hx,bo (by
  have:x.2.data.length<=iq d.files:=by unfold iq;exact HI _ _ (cu.2 ⟨x,hx,U⟩)
  rw[<-h.yA]at this;exact bo this h.le) h.cap⟩
 grind
def jY.f:jY->ab
 |.files=>1|_=>0
def jY.x:jY->ab
 |.l8 ..=>0|.put ..=>0|.del _=>0|.merge=>0|.files=>0|_=>4
theorem P1{x:l9}(h:x.in p n)(hn:n<=1450000)(hp:p<=40000000000)(ha:a.may):(x.do a).2.length+1<=a.f*(24*p+190000000)+2400000000*a.x+110*a.y:=by
 have hd:=h.ok;have C2:∀{m:ab},m+1<=9600000000->m+1<=0*(24*p+190000000)+2400000000*4+110*0:=λh=>by rw[Nat.zero_mul,bT];exact bo h eK
 have ask:∀(f:gW->(gW×cd)×Bs) (K:ab),5<=K->(∀s,zZ s n->(f s).2.length+1<=K)->(x.pT f).2.length+1<=K:=by
  intro f K hK hf;unfold l9.pT;cases hs:x.vN with
  |none=>exact hK
  |some s=>exact hf s (h.st s hs)
 have new:∀q:ah cd×ae,eS q.2->(x.new q).2.length<=27:=λq hq=>fT hq;cases a with
 |Ei k=>exact C2 (bo (gH (new _ (aq8 k []))) eK)
 |l8 t k1 k2=>
  obtain⟨_,h2,h3⟩:=BH hd k1 k2 (t==kM);have hl:(s9 (gX x.ej k1 k2 (t==kM)).2).length<=100:=by
   cases hr:(gX x.ej k1 k2 (t==kM)).2 with
   |error e=>exact bo (fT (h2 e hr)) eK
   |ok z=>
    obtain⟨a,b,c⟩:=h3 z hr;have hk:=(yt a).1;have hP:=h.P;have hu:=h.ok.le;have hc:=h.ok.cap;have l1:=eJ (z.1.keys.length:ae) bw bw;have l2:=vc z.2.top;have S7:=Pe h;have l3:=eJ (z.2.cG:ae) bw bw;have l4:=eJ (z.2.dP:ae) bw bw;unfold s9;simp only[bK,bL,dU];omega
  show(s9 (gX x.ej k1 k2 (t==kM)).2).length+1<=0*(24*p+190000000)+2400000000*0+110*14;omega
 |put k v=>
  have:=ask (λs=>((s.put x.ej k v).1,eH (s.put x.ej k v).2)) 28 eK λs hs=>gH (fT (ER hs hd k v).2.2);show(x.pT λs=>((s.put x.ej k v).1,eH (s.put x.ej k v).2)).2.length+1<=0*(24*p+190000000)+2400000000*0+110*4;omega
 |del ks=>
  have:=ask (λs=>((s.delete x.ej ks).1,eH (s.delete x.ej ks).2)) 28 eK λs hs=>gH (fT (vf hs hd ks).2.2);show(x.pT λs=>((s.delete x.ej ks).1,eH (s.delete x.ej ks).2)).2.length+1<=0*(24*p+190000000)+2400000000*0+110*(4+2*ks.length);omega
 |get k=>
  refine bo (ask _ 10000 eK λs hs=>?_) (bo (by decide:10000<=9600000000) (by have:∀q,9600000000<=0*q+2400000000*4+110*0:=(λq=>by omega);exact this _));obtain⟨_,a,b⟩:=BD (x:=s) hd k;dsimp only;unfold WR;split
  ·have:=fT a;omega
  ·split
   ·decide
   ·have:=uq b;exact bj2
 |sync=>exact C2 (bo (ask _ 28 eK λs hs=>gH (fT (BE hs hd).2.2)) eK)
 |merge=>
  have:=ask (λs=>((s.merge x.ej).1,eH (s.merge x.ej).2)) 28 eK λs hs=>gH (fT (yr hs h.n1 hd).2.2.1);show(x.pT λs=>((s.merge x.ej).1,eH (s.merge x.ej).2)).2.length+1<=0*(24*p+190000000)+2400000000*0+110*4;omega
 |close=>exact C2 (bo (ask _ 28 eK λs hs=>gH (fT (yq hs hd).2.2)) eK)
 |keys=>
  refine C2 (bo (ask _ 9600000000 eK λs hs=>?_) (bz _));obtain⟨a,b⟩:=yt hs;have:=nT (λk=>32::fw k) 194 s.keys λk hk=>by
   rw[bL];have:=uq (b k hk);omega
  dsimp only;unfold py;rw[bK];have:([107,101,121,115]:Bs).length=4:=U;omega
 |all=>
  refine C2 (bo (ask _ 9600000000 eK λs hs=>?_) (bz _));obtain⟨a,b⟩:=yt hs;obtain⟨_,c,e⟩:=BF s s.keys x.ej hd;have e0:s.all x.ej=ll s s.keys x.ej:=U;have:=nT (λx:Bs×Bs=>32::(fw x.1++32::fw x.2)) 6500 (ll s s.keys x.ej).1 λy hy=>by
   obtain⟨e1,e2⟩:=e y hy;have h1:=uq (b _ e1);have h2:=uq e2;rw[bL,bK,bL];omega
  dsimp only;rw[e0];unfold vd;rw[bK];have:([97,108,108]:Bs).length=3:=U;omega
 |last=>
  refine C2 (bo (ask _ 28 eK λs hs=>?_) eK);have:=vc s.last;dsimp only;rw[bK];have:([108,97,115,116,32]:Bs).length=5:=U;omega
 |fail k=>exact C2 (bo (gH (fT (Uv hd k aO7).2)) eK)
 |brk k t=>exact C2 (bo (gH (fT (Pd hd k (t==ve) aO7).2)) eK)
 |jU k=>exact C2 (by show 2+1<=_;decide)
 |dm m=>exact C2 (bo (gH (new _ (bX6 m x.ej))) eK)
 |files=>
  have h1:=Xd hd;have h2:=h.P;have h3:=h.L;have h4:=hd.le;have h5:=hd.cap;show(lu x.ej.all).length+1<=1*(24*p+190000000)+2400000000*0+110*0;omega
 |read t=>
  refine C2 (bo (gH (?_:_<=13000000)) eK);have key:∀l:Y ca,(∀f∈l,f.data.length<=4194304)->(uo t l).length<=13000000:=by
   intro l;induction l with
   |nil=>exact λ_=>bo (fT (e:=71) (by constructor<;>decide)) eK
   |cons f r ih=>
    intro hl;unfold uo;split
    ·have:=uq (hl f dW);exact bj2
    ·exact ih λg hg=>hl g (by simp[hg])
  exact key _ (HG hd)
 |used=>
  refine C2 (bo (gH (?_:_<=30)) eK);have h4:=hd.le;have h5:=hd.cap;have:=eJ (x.ej.used:ae) bw bw;show([117,115,101,100,32]++ib x.ej.used).length<=30;rw[bK];have:([117,115,101,100,32]:Bs).length=5:=U;omega
def xg(l:Y jY):ab:=(l.map jY.y).sum
def Sx(l:Y jY):ab:=(l.map jY.x).sum
def Pf(l:Y jY):ab:=(l.map jY.f).sum
theorem Dd:∀(l:Y jY) {x:l9} {p n:ab},x.in p n->(∀a∈l,a.may)->p+300000*xg l<=40000000000->n+xg l<=100000000->x.lZ l
 |[],_,_,_,_,_,_,_=>trivial
 |a::r,x,p,n,h,ha,hp,hn=>by
  have e:xg (a::r)=a.y+xg r:=by unfold xg;rw[bN,fS]
  rw[e]at hp hn;have h1:=ha a dW;exact⟨P5 h bw bw h1,Dd r (BV h h1) (λb hb=>ha b (by simp[hb])) bw bw⟩
theorem vV:∀(l:Y jY) {x:l9} {p n:ab},x.in p n->(∀a∈l,a.may)->p+300000*xg l<=40000000000->n+xg l<=1450000->(x.outs l).length<=Pf l*(24*(p+300000*xg l)+190000000)+2400000000*Sx l+110*xg l
 |[],_,_,_,_,_,_,_=>bp _
 |a::r,x,p,n,h,ha,hp,hn=>by
  have e:xg (a::r)=a.y+xg r:=by grind [xg]
  have e2:Sx (a::r)=a.x+Sx r:=by grind [Sx]
  have e3:Pf (a::r)=a.f+Pf r:=by grind [Pf]
  rw[e]at hp hn
  have h1:=ha a dW
  have h2:=P1 h bw bw h1
  have h3:=vV r (BV h h1) (λb hb=>ha b (by simp[hb])) bw bw
  rw[e,e2,e3]
  grind [l9.outs]
abbrev jY.wt:jY->ab
 |.files=>6|.l8 ..=>14|.del ks=>4+2*ks.length|_=>4
theorem bO8(a:jY):a.wt=6*a.f+a.y+a.x:=by
 cases a with
 |del ks=>show 4+2*ks.length=6*0+(4+2*ks.length)+0;omega
 |_=>rfl
theorem LM:∀l:Y jY,(l.map jY.wt).sum=6*Pf l+xg l+Sx l
 |[]=>rfl
 |a::r=>by
  have h:=LM r;have h2:=bO8 a;unfold Pf xg Sx at*;simp only[bN,fS];omega
theorem aP0{f y x:ab}(h:6*f+y+x<=20001):f*(24*(200+300000*y)+190000000)+2400000000*x+110*y<=140737488355328:=by
 have h1:f*(24*(200+300000*y)+190000000)=7200000*(f*y)+190004800*f:=by
  grind
 rw[h1]
 have h2:4*(6*f)*y<=(6*f+y)*(6*f+y):=by
  have h3:((6*f:ab) - y:ae)*((6*f:ab) - y:ae)≥0:=by
   rcases Int.le_total 0 ((6*f:ab) - y:ae)with h|h
   ·exact Int.mul_nonneg h h
   ·exact Int.mul_nonneg_of_nonpos_of_nonpos h h
  grind
 have h3:(6*f+y)*(6*f+y)<=20001*(6*f+y):=eB _ bw
 grind
theorem ET:qU.in 200 1400000:=⟨⟨List.nodup_nil,U,by decide,by decide,by decide,by decide,λx hx=>vE,λx hx=>vE⟩,bp _,bp _,bz _,bz _,λs hs=>by cases hs⟩
theorem J4{l:Y jY}(hl:∀a∈l,a.may)(hw:(l.map jY.wt).sum<=100000):qU.lZ l:=by
 grind [LM,Dd,ET]
theorem J5{l:Y jY}(hl:∀a∈l,a.may)(hw:(l.map jY.wt).sum<=20001):(qU.outs l).length<=140737488355328:=by
 rw[LM]at hw;exact bo (vV l ET hl bw bw) (aP0 hw)
end
theorem ar1:∀l:Y jY,4*l.length<=(l.map jY.wt).sum
 |[]=>bz _
 |a::r=>by
  have h:=ar1 r;have h2:4<=a.wt:=by
   cases a with
   |del ks=>show 4<=4+2*ks.length;omega
   |l8=>show 4<=14;decide
   |files=>show 4<=6;decide
   |_=>exact bz _
  simp only[bN,fS,bL];omega
theorem ar2{s:Bs}(hs:s.length<=20000){A:Y jY}(hp:tH s=.ok (A.map jY.cmd))(hm:∀a∈A,a.may)(hw:(A.map jY.wt).sum<=20001):
 TR be GG 7 #[bn s] [] (dC λu C=>u=.tuple #[bn (qU.outs A),.int .i64 0,.int .i64 0]/\C=[]):=
 am7 s hs A hp (by grind [ar1]) (J4 hm bw) (J5 hm hw)
abbrev bO9:Bs:=[111,112,101,110,32,100,101,101,112,32,49,48,48,48,32,48,10,112,117,116,32,97,32,49,10,115,121,110,99,10,112,117,116,32,98,32,37,48,48,10,99,114,97,115,104,32,48,10,111,112,101,110,32,100,101,101,112,32,49,48,48,48,32,48,10,97,108,108,10]
abbrev Xe:Bs:=[111,107,32,48,32,48,32,48,32,48,10,111,107,10,111,107,10,111,107,10,111,107,10,111,107,32,49,32,49,32,49,32,48,10,97,108,108,32,97,32,49,10]
def Pg:Y jY:=[.l8 [100,101,101,112] 1000 0,.put [97] [49],.sync,.put [98] [0],.jU 0,.l8 [100,101,101,112] 1000 0,.all]
theorem Xf:tH bO9=.ok (Pg.map jY.cmd):=iB
def Sy:Bs:=[115,101,103,45,48,48,48,48,48,48,48,49,46,108,111,103]
def J6:Bs:=[115,101,103,45,48,48,48,48,48,48,48,49,46,104,105,110,116]
def ar3:Bs:=[167,0,0,5,1,1,1,97,49,12,2,59,28,77]
def Uw:Bs:=[167,0,0,6,3,1,1,0,14,97,7,68,117,113,71,167,0,0,9,4,1,14,1,248,196,208,196,1,14,88,44,6,23]
def dk5:cd:=⟨4194304,14,[(Sy,⟨ar3,14⟩)],0,0,aQ,aQ⟩
def dk6:cd:=⟨4194304,47,[(Sy,⟨ar3,14⟩),(J6,⟨Uw,33⟩)],0,0,aQ,aQ⟩
theorem bP0:qU.after (Pg.take 5)=⟨dk5,aO⟩:=iB
theorem bw9:qU.outs (Pg.take 5)=Xe.take 23:=Xg
theorem bP1:(uU dk5).1=dk6:=iB
theorem ar5:dk6.names=[J6,Sy]:=by
 unfold cd.names sortStr;rw[show dk6.files.map (·.1)=[Sy,J6]from rfl,List.mergeSort];simp;rw[List.cons_merge_cons,aj Xg];rw[List.merge_right];try rfl
theorem bP2:dk6.all=[⟨J6,Uw⟩,⟨Sy,ar3⟩]:=by
 unfold cd.all cd.told;rw[ar5];kernel_rfl
theorem ar6:dk6.nv=[⟨J6,Uw⟩,⟨Sy,ar3⟩]:=by
 unfold cd.nv cd.told;rw[ar5];kernel_rfl
theorem bP3:lI dk6=(dk6,0):=by
 unfold lI;rw[bP2,ar6];kernel_rfl
theorem bP4:(uU dk5).2=.ok ⟨Is dk6.all,1,1,0⟩:=iB
abbrev bP5:fu:=Is [⟨J6,Uw⟩,⟨Sy,ar3⟩]
abbrev bx0:gW:=⟨1000,0,aQ,⟨1000,0,0,0,0,0,aQ⟩,bP5,1,aQ,aQ⟩
theorem bP6:gX dk5 1000 0 aQ=(dk6,.ok (bx0,⟨bP5,1,1,0⟩)):=by
 unfold gX
 rw[aj eK]
 grind [mC,bP4,bP1,bP3,bP2]
theorem bx3:(⟨dk5,aO⟩:l9).do (.l8 [100,101,101,112] 1000 0)=(⟨dk6,aN bx0⟩,Xe.drop 23 |>.take 10):=by
 have e0:(([100,101,101,112]:Bs)==kM)=aQ:=eK;unfold l9.do;dsimp only;rw[e0];show((⟨(gX dk5 1000 0 aQ).1,match(gX dk5 1000 0 aQ).2 with|.ok z=>aN z.1|.error _=>aO⟩:l9),s9 (gX dk5 1000 0 aQ).2)=_;rw[bP6];dsimp only;exact Prod.ext U Xg
theorem bx4:(⟨dk6,aN bx0⟩:l9).outs [.all]=Xe.drop 34:=Xg
theorem HJ:∀(a b:Y jY) (x:l9),x.outs (a++b)=x.outs a++(x.after a).outs b
 |[],b,x=>rfl
 |c::r,b,x=>by
  show(x.do c).2++[10]++(x.do c).1.outs (r++b)=((x.do c).2++[10]++(x.do c).1.outs r)++_;rw[HJ r b,cB ((x.do c).2++[10])];rfl
theorem ar7:qU.outs Pg=Xe:=by
 have e:Pg=Pg.take 5++[.l8 [100,101,101,112] 1000 0,.all]:=U;rw[e,HJ,bw9,bP0];show Xe.take 23++((l9.do ⟨dk5,aO⟩ (.l8 [100,101,101,112] 1000 0)).2++[10]++(l9.do ⟨dk5,aO⟩ (.l8 [100,101,101,112] 1000 0)).1.outs [.all])=Xe;rw[bx3,bx4];decide+kernel
theorem aP1:∀a∈Pg,a.may:=by
 unfold Pg
 grind
def bX7(s a:Bs)(i:ab)(e:ae):Prop:=
 (20000<s.length/\a=[]/\i=0/\e=160)\/(s.length<=20000/\tH s=.error i/\0<i/\a=[]/\e=161)\/
 (s.length<=20000/\∃A:Y jY,tH s=.ok (A.map jY.cmd)/\(∀c∈A,c.may)/\(A.map jY.wt).sum<=20001/\a=qU.outs A/\i=0/\e=0)
theorem bT1{s a:Bs}{i:ab}{e:ae}(h:bX7 s a i e):(e=0\/e=160\/e=161)/\a.length<=140737488355328/\i<=20001:=by
 rcases h with⟨_,rfl,rfl,rfl⟩|⟨h,hp,hi,rfl,rfl⟩|⟨_,A,_,h2,h3,rfl,rfl,rfl⟩
 ·grind
 ·refine⟨.inr (.inr U),by decide,?_⟩
  have key:∀(ls:Y Bs) (i:ab) (acc:Y H5) (j:ab),lq i ls acc=.error j->j<=i+ls.length:=by
   intro ls;induction ls<;>grind [lq]
  have h1:=key _ _ _ _ hp
  grind [uP,cZ]
 grind [J5]
theorem ar8:TR be GG 6 #[] [] (dX (.bool aP)):=by
 refine SV λb O hb hG=>xS ?_;have h:=ar2 (s:=bO9) eK Xf aP1 Xg;rw[ar7]at h;refine cP h ?_;rintro v C ⟨rfl,rfl⟩;exact xR
theorem Xh(c:au):∀s:Bs,splitB c s≠[]
 |[]=>by simp[splitB]
 |x::r=>by
  grind [splitB]
theorem HK(c:au):∀s m:Bs,splitB c (s++c::m)=splitB c s++splitB c m
 |[],m=>by simp[splitB]
 |x::r,m=>by
  have ih:=HK c r m;rw[bh,splitB,ih,show splitB c (x::r)=if x=c then[]::splitB c r else match splitB c r with|h::t=>(x::h)::t|[]=>[[x]]from by rw[splitB];rfl];split
  ·rfl
  ·cases h:splitB c r with
   |nil=>exact aD h (Xh c r)
   |cons y t=>rfl
theorem zR:∀(a b:Y Bs) (i:ab) (acc:Y H5),lq i (a++b) acc=match lq i a acc with|.error j=>.error j|.ok cs=>lq (i+a.length) b cs
 |[],b,i,acc=>rfl
 |l::r,b,i,acc=>by
  rw[bh,lq,lq];cases DS l with
  |error e=>rfl
  |ok cs=>
   dsimp only;rw[zR r b];have e:i+1+r.length=i+(l::r).length:=by simp only[bL];omega
   rw[e]
end Go.Proofs
namespace Go.Proofs
open Go Go.Sl YtcicblljnenhoaaGreatDoor
open Go.ChangeShapes Go.WideShapes Go.RowKit Go.ChangeMaps
set_option maxRecDepth 8000
section
variable(os:Os)(args:ar aR)
section
set_option maxRecDepth 100000
theorem la:(lm os args).variablesRefB be=aP:=iB
theorem lb:((lm os args).heap.toList.drop be.globals.size).take ((begin be (λ_ _=>0) default).world.heap.size - be.globals.size)=(begin be (λ_ _=>0) default).world.heap.toList.drop be.globals.size:=iB
theorem lr:((DataW.laidRun be (lm os args).memory 8 ((wy.filter λx=>x.2.handleName?.isNone).map (·.1))).bind λx=>if nodupBits 257 x.2 0&&laidRowsB be (lm os args).memory x.2&&(wy.filter λx=>x.2.handleName?.isSome&&x.2.funcsIn?.isNone).all (handleAtB be (lm os args).memory)then aN x.1 else aO)=aN (wy.filter λx=>x.2.handleName?.isNone):=iB
theorem bP7:laidMetH be wy (lm os args).memory:=by
 have h:=lr os args;simp only[Option.bind_eq_some_iff]at h;obtain⟨x,hx,h⟩:=h;split at h
 ·rename_i hb;simp only[Bool.and_eq_true]at hb;have h:=fo h;refine laidMetH_of_parts3 (fuel:=8) (laidMet_of_run (ps:=x.2) 8 (by rw[hx,<-h]) (aK (nodupBits_sound hb.1.1).1) hb.1.2) hb.2 iB
 ·cases h
end
end
end Go.Proofs
namespace Go.Proofs
open Go.Sl
set_option maxRecDepth 8000
def bP8(cur:Bs):Y Bs:=if cur=[]then[]else[cur]
theorem bj3(cur r:Bs):Lib.fieldsGo cur (32::r)=bP8 cur++Lib.fieldsGo [] r:=by
 cases cur with
 |nil=>rw[Lib.fieldsGo_sp _ _ eK];rfl
 |cons x t=>rw[Lib.fieldsGo_end _ _ _ eK dW];rfl
theorem bP9(cur r:Bs)(c:au)(h:33<=c.toNat):Lib.fieldsGo cur (c::r)=Lib.fieldsGo (cur++[c]) r:=by
 refine Lib.fieldsGo_more _ _ _ ?_;unfold Lib.isSp;simp only[Bool.or_eq_false_iff,beq_eq_false_iff_ne];refine⟨⟨⟨⟨⟨?_,?_⟩,?_⟩,?_⟩,?_⟩,?_⟩<;>(rintro rfl;exact aD h eK)
theorem HL(c:au):∀s:Bs,(∀x∈s,x≠c)->splitB c s=[s]
 |[],_=>rfl
 |x::r,h=>by rw[splitB,aj (h x dW),HL c r λy hy=>h y D9]
theorem Sz(c:au)(s m:Bs)(h:∀x∈s,x≠c):splitB c (s++c::m)=s::splitB c m:=by grind [HK,HL]
def HM(b:Bs):Prop:=∀x∈b,x≠10
theorem HM.app{a b:Bs}(h:HM a)(h2:HM b):HM (a++b):=λx hx=>(du.1 hx).elim (h x) (h2 x)
theorem HM.cons{c:au}{b:Bs}(h:c≠10)(h2:HM b):HM (c::b):=λx hx=>(cW.1 hx).elim (λe=>e▸h) (h2 x)
theorem HM.nil:HM []:=λx hx=>by cases hx
theorem bR5{α:Type}{f:α->Bs}{l:Y α}(h:∀x,HM (f x)):HM (l.flatMap f):=λx hx=>by
 exact bj4
section
variable{A:Y jY}{ns:Y Bs}{c:H5}{b w x l a:Bs}(B:ab)(q:Bs)(k:ab)(nd:Y Bs)(r:Bs)(u:ab)(e:ae)(d:ab)(s:Bs)(sM:ae)(n:ab)
def pick(c:ae)(n:ab):ab:=(if c<0 then -(c+1)else c).toNat%n
theorem qi(c:ae){n:ab}(h:0<n):pick c n<n:=Nat.mod_lt _ h
theorem kI(c:ae)(n:ab)(h0: -9223372036854775808<=c)(h1:c<=9223372036854775807)(hn:0<n):TR be GG 11 #[bR c,bR n] [] (dX (bR (pick c n))):=by
 refine bZ U λb O hb hG=>?_;unfold pick;refine xS ?_;by_cases h:c<0
 ·rw[ao h]
  refine bD 6 aP U bQ (xS ?_)
  rw[wrap_i64 _ bw bw]
  refine xS ?_
  refine X.rem U U U U bw (xS ?_)
  refine cT hb (.tmps U) ⟨?_,U⟩
  grind [mv,bR]
 ·rw[aj h]
  refine bD 6 aQ U bQ (xS ?_)
  refine X.rem U U U U bw (xS ?_)
  refine cT hb (.tmps U) ⟨?_,U⟩
  grind [mv,bR]
structure Op where
 kind:ae
 n:ab
 m:ab
 a:Bs
 b:Bs
abbrev Op.cs(o:Op):Y aR:=[bR o.kind,bR o.n,bR o.m,bn o.a,bn o.b]
abbrev Op.val(o:Op):aR:=.agg #[bR o.kind,bR o.n,bR o.m,bn o.a,bn o.b]
structure Op.ok(o:Op):Prop where
 k0: -9223372036854775808<=o.kind
 k1:o.kind<=9223372036854775807
 n1:o.n<100000
 m1:o.m<1000
def DV(o:Op)(n:ab):ab:=match pick ((o.m / 7:ab):ae) 6 with
 |0=>o.n*9973
 |1=>o.n
 |_=>n
theorem vg(a b:ab)(h:a<4611686018427387904):eu.wrap ((a:ae).tdiv (b:ae))=((a / b:ab):ae):=by
 have e:(a:ae).tdiv (b:ae)=((a / b:ab):ae):=U
 have h2:=Nat.div_le_self a b
 grind [wrap_i64]
theorem ur(o:Op)(ho:o.ok)(n:ab):TR be GG 12 #[o.val,bR n] [] (dX (bR (DV o n))):=by
 refine bZ U λb O hb hG=>?_;have h1:=ho.n1;have h2:=ho.m1;have hp:=qi ((o.m / 7:ab):ae) (show 0<6 by decide);have hg:DV o n=match pick ((o.m / 7:ab):ae) 6 with
  |0=>o.n*9973
  |1=>o.n
  |_=>n:=U
 have I7:=kI ((o.m / 7:ab):ae) 6 bw bw eK;rw[hg];refine xP ?_;intro b2;refine X.quo U U U U eK ?_;rw[show eu.wrap ((o.m:ae).tdiv 7)=((o.m / 7:ab):ae)from vg o.m 7 bw];refine xJ I7 ?_;generalize pick ((o.m / 7:ab):ae) 6=p at*;refine xS ?_;match p,hp with
 |0,_=>
  refine bD 10 aP U cE (xS ?_);exact cT hb (.tmps U) ⟨by simp[mv,bR],U⟩
 |1,_=>
  refine bD 10 aQ U cE  ?_;exact xR
 |p+2,_=>
  refine bD 10 aQ U fD (xS ?_);refine bD 15 aQ U fD  ?_;exact xR
theorem xh(o:Op)(ho:o.ok)(n:ab)(hn:n<=997290027):DV o n<=997290027:=by
 have h1:=ho.n1
 grind [DV]
def q10:Bs:=[48,49,50,51,52,53,54,55,56,57]
theorem bx5(h:d<10):(q10.drop d).take (d+1 - d)=[cV (48+d)]:=by
 have key:∀d:Fin 10,(q10.drop d.1).take (d.1+1 - d.1)=[cV (48+d.1)]:=eK;exact key ⟨d,h⟩
theorem Pj(h:¬n<10):bB n=bB (n / 10)++[cV (48+n%10)]:=by
 grind [bB]
theorem iW(h:n<18446744073709551616):(bB n).length<=20:=by
 grind [Lib.decDigits_length,Lib.nDigits_le20]
theorem vh(hn:n<18446744073709551616):TR be GG 36 #[.int .u64 n] [] (dX (bn (bB n))):=by
 induction n using Nat.strongRecOn with
 |ind n ih=>
  refine dH U λb O hb hG=>xS ?_;refine X.rem U U U U eK ?_;rw[show((n:ae).tmod 10)=((n%10:ab):ae)from rfl];refine xS ?_;rw[wrap_i64 _ bw bw];refine xS ?_;refine lO (l:=n%10) (h:=n%10+1) U U U (Bd.at U U) (Bd.at U dW) bw (by show n%10+1<=10;omega) ?_;rw[show([48,49,50,51,52,53,54,55,56,57]:Bs)=q10 from rfl,bx5 _ bw];refine xS ?_;by_cases h:n<10
  ·refine bD 13 aP U fD (xS ?_);refine cT hb (.tmps U) ⟨?_,U⟩;rw[Lib.decDigits_one h,Nat.mod_eq_of_lt h];rfl
  ·refine bD 13 aQ U fD ?_;have ih:=ih (n / 10) bw bw;have hl:=iW (n / 10) bw;rw[Pj n h];generalize bB (n / 10)=t at*;refine xS ?_;refine X.quo U U U U eK ?_;rw[show((n:ae).tdiv 10)=((n / 10:ab):ae)from rfl,wrap_u64 _ bw];refine xJ ih ?_;exact xR
theorem nE(hn:n<9223372036854775808):TR be GG 26 #[bR n] [] (dX (bn (bB n))):=by
 refine dH U λb O hb hG=>xS ?_;rw[wrap_u64 _ bw];refine xJ (vh n bw) ?_;exact xR
theorem SA(h:0<e):eH e=[101,114,114,111,114,32]++bB e.toNat:=by
 grind [eH,ib]
theorem oE(h0:0<=e)(h1:e<=9223372036854775807):TR be GG 27 #[.int .i64 e] [] (dX (bn (eH e))):=by
 refine dH U λb O hb hG=>?_;by_cases h:e=0
 ·subst h;exact xR
 ·rw[SA e bw];refine xS ?_;refine bD 4 aQ U Au (xS ?_);have hl:=iW e.toNat bw;rw[show ee.wrap e=(e.toNat:ae)from by
   conv=>lhs;rw[show e=(e.toNat:ae)from by omega]
   exact wrap_u64 _ bw]
  refine xJ (vh e.toNat bw) ?_;exact xR
theorem qI(c:Bs)(e:ae)(v:aR)(A:Y bG)(h:aK2 c e v A)(h0:0<=e)(h1:e<=9223372036854775807):TR be GG 34 #[v] A (dX (bn (eH e))):=by
 refine dH U λb O hb hG=>?_;rcases h with⟨rfl,rfl,rfl⟩|⟨he,p,rfl,rfl⟩
 ·exact bg4
 ·refine xS ?_;refine mO U U U U U  ?_;refine xA ?_;intro b3;refine rN U U U  ?_;refine xE (Nv p b3 c e 0) ?_;refine xJ (oE e h0 h1) ?_;exact xR
theorem xi:TR be GG 37 #[bn s,bR n] [] (dX (bn (s.take n))):=by
 refine bZ U λb O hb hG=>xS ?_;by_cases h:n<s.length
 ·refine bD 8 aP U fD (xS ?_);refine lO (l:=0) (h:=n) U U U Bd.no (Bd.at U U) (bp _) bw  ?_;exact xR
 ·refine bD 8 aQ U fD (xS ?_);exact cT hb (.tmps U) ⟨by rw[bI bw];rfl,U⟩
theorem C3(h:d<16):(h16.drop d).take (d+1 - d)=[ji d]:=by
 have key:∀d:Fin 16,(h16.drop d.1).take (d.1+1 - d.1)=[ji d.1]:=eK;exact key ⟨d,h⟩
def zS(c:au):Bs:=[37,ji (c.toNat / 16),ji (c.toNat%16)]
theorem C4{c:au}(h:¬(33<=c.toNat/\c.toNat<=126/\c≠37)):kD c=zS c:=aj h
theorem sD(hs:s.length<=1000000000000):TR be GG 31 #[bn s] [] (dX (bn (fw s))):=by
 refine dH U λb O hb hG=>?_;have cD:fw s=if s=[]then[45]else if s=[45]then[37,50,100]else s.flatMap kD:=U;generalize fw s=res at*;refine xS ?_;by_cases h1:s=[]
 ·subst h1;exact bg2
 rw[aj h1]at cD;refine bD 9 aQ U bQ (xS ?_);by_cases h2:s=[45]
 ·subst h2;exact bj5
 rw[aj h2]at cD;refine bD 11 aQ U bQ (xS ?_);refine fR [0] [] (ι:={z:ab // z<=s.length}) (λz q_=>(3,bn ((s.take z.1).flatMap kD))::(4,bR z.1)::q_) (λz q_=>q_) (λz=>s.length - z.1) ⟨0,bp _⟩ ?_;rintro⟨i,hi⟩ ih;dsimp only at hi ⊢;refine xB ?_ ?_<;>intro h
 ·have hi:i<s.length:=bQ;have ht:(s.take (i+1)).flatMap kD=(s.take i).flatMap kD++kD s[i]:=aK8;have nC:=ym (s.take i);rw[dG]at nC;have ih:=ih ⟨i+1,by omega⟩ bQ;dsimp only at ih;rw[ht]at ih;generalize(s.take i).flatMap kD=acc at*;have hx:=s[i].toNat_lt;refine xS ?_;refine nk (ι:=aA) (λ_=>([(0,bn s),(3,bn (acc++kD s[i])),(4,bR i)],[])) (λ_=>?_) (λK fin=>?_)
  ·dsimp only;exact Hm
  by_cases hT:33<=s[i].toNat/\s[i].toNat<=126/\s[i]≠37
  ·obtain⟨hA,hB,hC⟩:=hT;rw[kD,ao ⟨hA,hB,hC⟩]at fin;refine jG (l:=s) (j:=i) U U U U U hi (xS ?_);refine bD 22 aP U fD (xS ?_);refine jG (l:=s) (j:=i) U U U U U hi (xS ?_);refine bD 28 aP U fD (xS ?_);refine jG (l:=s) (j:=i) U U U U U hi (xS ?_);refine bD 33 aP U ?_ ?_
   ·exact bg3
   refine xS ?_;refine lO (l:=i) (h:=i+1) U U U (Bd.at U U) (Bd.at U dW) bw bw ?_;rw[show(s.drop i).take (i+1 - i)=[s[i]]from by grind [bP]];exact Je
  ·rw[C4 hT]at fin;refine jG (l:=s) (j:=i) U U U U U hi ?_;refine SU (ι:=aA) (λ_=>([(0,bn s),(3,bn acc),(4,bR i),(33,.bool aQ)],[])) (λ_=>?_) (λK2 y7=>?_)
   ·dsimp only;refine xS ?_;refine jG (l:=s) (j:=i) U U U U U hi (xS ?_);rw[wrap_i64 _ bw bw];refine xS ?_;refine X.quo U U U U eK ?_;rw[show eu.wrap ((s[i].toNat:ae).tdiv 16)=((s[i].toNat / 16:ab):ae)from vg _ 16 bw];refine xS ?_;refine jG (l:=s) (j:=i) U U U U U hi (xS ?_);rw[wrap_i64 _ bw bw];refine xS ?_;refine X.rem U U U U eK ?_;rw[show((s[i].toNat:ae).tmod 16)=((s[i].toNat%16:ab):ae)from rfl];have hp:s[i].toNat / 16<16:=bw;have hq:s[i].toNat%16<16:=bw;unfold zS at fin;generalize s[i].toNat / 16=p at*;generalize s[i].toNat%16=q at*;refine xS ?_;refine fU 14 [] ?_;apply dB [0,1,2,3,4,5,6,7,8,9,10,11,12,13] U U U
    ·exact bQ0
    ·rfl
    ·rfl
    refine xS ?_;exact X.less (fin ()) (Sub.cons U (Sub.cons (dI U dW) (Sub.of U))) bA
   ·have y7:=y7 ();refine xS ?_;by_cases hA:33<=s[i].toNat
    ·refine bD 22 aP U fD (xS ?_);refine jG (l:=s) (j:=i) U U U U U hi (xS ?_);by_cases hB:s[i].toNat<=126
     ·refine bD 28 aP U fD (xS ?_);refine jG (l:=s) (j:=i) U U U U U hi ?_;have hC:s[i]=37:=by
       grind
      refine xS ?_;refine bD 33 aQ U (by rw[hC];rfl) ?_;exact X.W y7
     ·refine bD 28 aQ U fD (xS ?_);exact X.W y7
    ·refine bD 22 aQ U fD (xS ?_);exact X.W y7
 exact bj6
def ep(s:Bs)(sM:ae):Bs:=if s=[]then[45]else if pick sM 2=0 then fw s else s.flatMap zS
theorem C5:∀(s:Bs),(s.flatMap zS).length=3*s.length
 |[]=>rfl
 |c::r=>by rw[ei,bK,C5 r,bL];simp[zS];omega
theorem oF:(ep s sM).length<=3*s.length+1:=by
 grind [ep,gA,C5]
theorem vi(hs:s.length<=1000000000000)(sM:ae)(h0: -9223372036854775808<=sM)(h1:sM<=9223372036854775807):TR be GG 39 #[bn s,bR sM] [] (dX (bn (ep s sM))):=by
 refine bZ U λb O hb hG=>?_;have cD:ep s sM=if s=[]then[45]else if pick sM 2=0 then fw s else s.flatMap zS:=U;have I7:=kI sM 2 h0 h1 eK;generalize ep s sM=res at*;generalize pick sM 2=pk at*;refine xS ?_;by_cases h1:s=[]
 ·subst h1;exact bj5
 rw[aj h1]at cD;refine bD 11 aQ U bQ  ?_;refine xJ I7 ?_;by_cases h2:pk=0
 ·subst h2;rw[ao U]at cD;subst cD;refine bD 14 aP U cE  ?_;refine xJ (sD s hs) ?_;exact xR
 rw[aj h2]at cD;refine bD 14 aQ U fD (xS ?_);refine X.loop (ι:={z:ab // z<=s.length}) (λz=>([(0,bn s),(5,bn h16),(6,bn ((s.take z.1).flatMap zS)),(7,bR z.1)],[])) (λz=>s.length - z.1) ⟨0,bp _⟩ (Sub.of U) (bS.refl _) ?_;rintro⟨i,hi⟩ ih;dsimp only at hi ⊢;refine xB ?_ ?_<;>intro h
 ·have hi:i<s.length:=bQ;have ht:(s.take (i+1)).flatMap zS=(s.take i).flatMap zS++zS s[i]:=aK8;have nC:=C5 (s.take i);rw[dG]at nC;have ih:=ih ⟨i+1,by omega⟩ bQ;dsimp only at ih;rw[ht]at ih;generalize(s.take i).flatMap zS=acc at*;have hx:=s[i].toNat_lt;refine xS ?_;refine jG (l:=s) (j:=i) U U U U U hi (xS ?_);rw[wrap_i64 _ bw bw];refine xS ?_;refine X.quo U U U U eK ?_;rw[show eu.wrap ((s[i].toNat:ae).tdiv 16)=((s[i].toNat / 16:ab):ae)from vg _ 16 bw];refine xS ?_;refine jG (l:=s) (j:=i) U U U U U hi (xS ?_);rw[wrap_i64 _ bw bw];refine xS ?_;refine X.rem U U U U eK ?_;rw[show((s[i].toNat:ae).tmod 16)=((s[i].toNat%16:ab):ae)from rfl];have hp:s[i].toNat / 16<16:=bw;have hq:s[i].toNat%16<16:=bw;unfold zS at ih;generalize s[i].toNat / 16=p at*;generalize s[i].toNat%16=q at*;refine xS ?_;refine fG (sG [0,1,2,3,4,5,6,7,8,9,10,11,12,13]) [] U ?_;apply dB [0,1,2,3,4,5,6,7,8,9,10,11,12,13] U U U
  ·exact bQ0
  ·rfl
  ·rfl
  refine xS ?_;exact X.less ih (Qm U U (dI U dW) (dI U nM)) bA
 exact bj6
def tL(b:Bs):Prop:=∀x∈b,33<=x.toNat/\x.toNat<=126
theorem tL.app(h:tL a)(h2:tL b):tL (a++b):=λx hx=>(du.1 hx).elim (h x) (h2 x)
theorem tL.cons{c:au}(h:33<=c.toNat/\c.toNat<=126)(h2:tL b):tL (c::b):=λx hx=>(cW.1 hx).elim (λe=>e▸h) (h2 x)
theorem tL.nil:tL []:=λx hx=>by cases hx
theorem Ye{α:Type}{f:α->Bs}{l:Y α}(h:∀x,tL (f x)):tL (l.flatMap f):=λx hx=>by
 exact bj4
theorem tL.lit(l:Bs)(h:l.all (λx=>decide (33<=x.toNat/\x.toNat<=126))=aP):tL l:=λx hx=>by grind
theorem BI(h:n<16):33<=(ji n).toNat/\(ji n).toNat<=126:=by
 have:∀n:Fin 16,33<=(ji n.1).toNat/\(ji n.1).toNat<=126:=eK;exact this ⟨n,h⟩
theorem Pm(c:au):tL (zS c):=by
 have hc:=c.toNat_lt;exact tL.cons eK (tL.cons (BI _ bw) (tL.cons (BI _ bw) tL.nil))
theorem Xi(c:au):tL (kD c):=by
 grind [kD,tL.cons,tL.nil,C4,Pm]
theorem Xj:tL (fw s):=by
 grind [fw,tL.lit,Ye,Xi]
theorem oG:tL (ep s sM):=by
 grind [ep,tL.lit,Xj,Ye,Pm]
theorem bj7{f:au->Bs}(hf:∀c,f c≠[]){s:Bs}(h:s≠[]):s.flatMap f≠[]:=by
 cases s<;>simp_all
theorem ar9(c:au):kD c≠[]:=by
 grind [JX]
theorem as0:fw s≠[]:=by
 grind [fw,bj7,ar9]
theorem BJ:ep s sM≠[]:=by
 grind [ep,as0,bj7,zS]
theorem Pn(p q:ab)(hp:p<16)(hq:q<16):Bw [ji p,ji q]=.ok (16*p+q):=by
 have key:∀p:Fin 16,vK (ji p.1)=(p.1:ae):=eK
 have h1:=key ⟨p,hp⟩
 have h2:=key ⟨q,hq⟩
 grind [Bw]
theorem HN(c:au)(r:Bs):ml (zS c++r)=(match ml r with|.ok q=>.ok (c::q)|.error e=>.error e):=by
 have hc:=c.toNat_lt
 show ml (37::(ji (c.toNat / 16)::ji (c.toNat%16)::r))=_
 rw[ON _ dW]
 have e1:∀x y:au,∀r:Bs,(x::y::r).take 2=[x,y]:=λ_ _ _=>rfl
 have e2:∀x y:au,∀r:Bs,(x::y::r).drop 2=r:=λ_ _ _=>rfl
 rw[e1,e2,Pn _ _ bw bw]
 dsimp only
 rw[show 16*(c.toNat / 16)+c.toNat%16=c.toNat from by omega,show cV c.toNat=c from by simp]
 grind
theorem Po(c:au)(r:Bs):ml (kD c++r)=(match ml r with|.ok q=>.ok (c::q)|.error e=>.error e):=by
 grind [kD,OM,C4,HN]
theorem HO{f:au->Bs}(hf:∀c r,ml (f c++r)=(match ml r with|.ok q=>.ok (c::q)|.error e=>.error e)):∀s:Bs,ml (s.flatMap f)=.ok s
 |[]=>rfl
 |c::r=>by rw[ei,hf,HO hf r]
theorem Pp:vx (fw s)=.ok s:=by
 unfold fw;split
 ·rename_i h;subst h;rfl
 ·split
  ·rename_i h;subst h;rfl
  ·rename_i h1 h2
   have h3:=HO Po s
   refine(aj ?_:vx _=ml _).trans h3
   intro e
   rw[e]at h3
   have h4:ml [45]=.ok [45]:=U
   grind
theorem td:vx (ep s sM)=.ok s:=by
 unfold ep;split
 ·rename_i h;subst h;rfl
 ·split
  ·exact Pp s
  ·rename_i h1 h2;have h3:=HO HN s;refine(aj ?_:vx _=ml _).trans h3;intro e;rw[e]at h3;have h4:ml [45]=.ok [45]:=U;rw[h4]at h3;cases h3;exact aD e eK
theorem LN:∀x∈bB u,DQ x=aP:=by
 induction u using Nat.strongRecOn with
 |ind u ih=>
  have key:∀n,n<10->DQ (cV (48+n))=aP:=λn hn=>by
   have:∀n:Fin 10,DQ (cV (48+n.1))=aP:=eK;exact this ⟨n,hn⟩
  grind [bB]
theorem Pq:∀(a b:Bs) (acc:ab),Lib.decFrom acc (a++b)=(Lib.decFrom acc a).bind λn=>Lib.decFrom n b
 |[],b,acc=>rfl
 |x::r,b,acc=>by
  rw[bh,Lib.decFrom,Lib.decFrom];cases Lib.digitVal x with
  |none=>rfl
  |some d=>exact Pq r b _
theorem as1:Lib.decFrom 0 (bB u)=aN u:=by
 induction u using Nat.strongRecOn with
 |ind u ih=>
  have key:∀n,n<10->Lib.digitVal (cV (48+n))=aN n:=λn hn=>by
   have:∀n:Fin 10,Lib.digitVal (cV (48+n.1))=aN n.1:=eK;exact this ⟨n,hn⟩
  by_cases h:u<10
  ·grind [Lib.decDigits_one,Lib.decFrom]
  ·rw[Pj u h,Pq,ih (u / 10) bw]
   grind [Lib.decFrom]
theorem as2(h:0<u):(bB u).headD 0≠48:=by
 induction u using Nat.strongRecOn with
 |ind u ih=>
  by_cases h1:u<10
  ·rw[Lib.decDigits_one h1];have:∀n:Fin 10,0<n.1->cV (48+n.1)≠48:=eK;exact this ⟨u,h1⟩ h
  grind [bB]
theorem HP(h:u<1000000000):1<=(bB u).length/\(bB u).length<=9:=by
 rw[Lib.decDigits_length];refine⟨Lib.nDigits_pos u,?_⟩;have key:∀(k u:ab),u<10^(k+1)->gJ u<=k+1:=by
  intro k;induction k<;>grind [Lib.nDigits_small,Lib.nDigits_big]
 simp_all
theorem Pr(h:u<1000000000):zM (bB u)=aP:=by
 grind [HP,LN,zM,Lib.decDigits_one,as2]
theorem aP2(h:u<1000000000):Hi (bB u)=u:=by
 have h1:=Ly _ (Pr u h);have h2:=LN u;have h3:=as1 u;obtain⟨h4,_⟩:=HP u h;generalize bB u=w at*;cases w with
 |nil=>simp at h4
 |cons x r=>
  have hx:=h2 x dW
  have e:Lib.atoi (x::r)=aN (u:ae):=by
   have h45:(x==45)=aQ:=Ua
   have h43:(x==43)=aQ:=Ua
   grind [Lib.atoi,Lib.decNat]
  grind
theorem aP3:tL (bB u):=λx hx=>by
 have:=LN u x hx
 grind [DQ]
theorem bx6:bB u≠[]:=by
 grind [Lib.nDigits_pos,Lib.decDigits_length]
theorem SB:∀(w cur r:Bs),tL w->Lib.fieldsGo cur (w++r)=Lib.fieldsGo (cur++w) r
 |[],cur,r,_=>by simp
 |x::w,cur,r,h=>by
  rw[bh,bP9 _ _ _ (h x dW).1,SB w _ _ λy hy=>h y D9,cB];rfl
theorem LO(h:tL w)(hn:w≠[])(r:Bs):fy (w++32::r)=w::fy r:=by
 grind [fy,SB,bj3,bP8]
theorem bQ1:fy (32::r)=fy r:=by
 unfold fy;rw[bj3];rfl
theorem SC(h:tL w)(hn:w≠[]):fy w=[w]:=by
 have:=SB w [] [] h;unfold fy;rw[bj,bk]at this;rw[this];cases w with
 |nil=>grind
 |cons x r=>rfl
def HQ(b:Bs):Prop:=∀x∈b,wA x=aQ/\x≠10
theorem pW(h:tL b):HQ b:=λx hx=>by
 have:=h x hx
 refine⟨by grind [wA],?_⟩
 rintro rfl
 grind
theorem HQ.app(h:HQ a)(h2:HQ b):HQ (a++b):=λx hx=>(du.1 hx).elim (h x) (h2 x)
theorem HQ.sp(h:HQ b):HQ (32::b):=λx hx=>(cW.1 hx).elim (λe=>e▸by decide) (h x)
theorem HQ.nil:HQ []:=λx hx=>by cases hx
structure nx(l:Bs)(a:jY):Prop where
 ok:HQ l
 line:DS l=.ok [a.cmd]
 may:a.may
 wt:a.wt<=l.length+1
theorem lnE{r:Y Bs}(h:HQ l)(hf:fy l=w::r)(h35:w.headD 0≠35)(hr:um (w::r)=.ok c):DS l=.ok [c]:=by
 unfold DS
 rw[ao ((Ck wA l 0).2 λx hx=>(h x hx).1),hf]
 grind
inductive XL:Bs->Y jY->Prop where
 |nil:XL [] []
 |snoc {s:Bs} {A:Y jY} {l:Bs} {a:jY} (h:XL s A) (hl:nx l a):XL (s++l++[10]) (A++[a])
theorem XL.split{s:Bs}(h:XL s A):∃ls:Y Bs,(∀t,splitB 10 (s++t)=ls++splitB 10 t)/\∀i acc,lq i ls acc=.ok (acc++A.map jY.cmd):=by
 induction h with
 |nil=>exact⟨[],λt=>rfl,λi acc=>by simp[lq]⟩
 |snoc h hl ih=>
  rename_i s A l a;obtain⟨ls,h1,h2⟩:=ih;refine⟨ls++[l],λt=>?_,λi acc=>?_⟩
  ·rw[cB,cB,h1,show l++([10]++t)=l++10::t from rfl,Sz _ _ _ λx hx=>(hl.ok x hx).2,cB];rfl
  ·rw[zR,h2]
   dsimp only
   rw[lq,hl.line]
   grind [lq]
theorem XL.parse{s:Bs}(h:XL s A):tH s=.ok (A.map jY.cmd):=by
 obtain⟨ls,h1,h2⟩:=h.split
 have h3:=h1 []
 rw[bj]at h3
 unfold tH
 rw[h3,zR,h2]
 dsimp only
 rw[show splitB 10 ([]:Bs)=[[]]from rfl,lq,show DS []=.ok []from rfl]
 grind [lq]
theorem XL.may{s:Bs}(h:XL s A):∀a∈A,a.may:=by
 induction h with
 |nil=>grind
 |snoc h hl ih=>
  intro a ha
  rcases du.1 ha with h1|h1
  ·grind
  ·rw[cK.1 h1];exact hl.may
theorem XL.wt{s:Bs}(h:XL s A):(A.map jY.wt).sum<=s.length:=by
 induction h with
 |nil=>exact bz _
 |snoc h hl ih=>
  have:=hl.wt
  grind
theorem bX9{k:ab}(hk:k<1000000000)(r:Y Bs):j8 ([110]::ns) c (bB k::r)=j8 ns {c with iV:=c.iV++[k]} r:=by
 grind [j8,Hj,Pr,aP2]
theorem bx7{q:Bs}(h:vx x=.ok q)(r:Y Bs):j8 ([116]::ns) c (x::r)=j8 ns {c with texts:=c.texts++[q]} r:=by
 grind [j8,Hj]
theorem bY0{n:ab}(h:Bw x=.ok n)(r:Y Bs):j8 ([120]::ns) c (x::r)=j8 ns {c with iV:=c.iV++[n]} r:=by
 grind [j8,Hj]
theorem bY1{nd:Bs}(d1:nd≠[110])(d2:nd≠[120])(d3:nd≠[116])(d4:nd≠[84])(h:(splitB 124 nd).contains x=aP)(r:Y Bs):j8 (nd::ns) c (x::r)=j8 ns {c with texts:=c.texts++[x]} r:=by
 grind [j8,Hj]
theorem bY2{r l:Y Bs}(h:pS (x::r)=.ok l):j8 ([84]::ns) c (x::r)=j8 ns {c with texts:=c.texts++l} []:=by
 grind [j8,Hj]
theorem as3{args:Y Bs}{a:jY}(eI:HQ l)(hf:fy l=w::args)(h35:w.headD 0≠35)(hs:(By w).map Sh.iU=aN nd)(hn:j8 nd ⟨w,[],[]⟩ args=.ok a.cmd)(hm:a.may)(hw:a.wt<=l.length+1):nx l a:=
 ⟨eI,lnE eI hf h35 (by
  grind [um]),hm,hw⟩
theorem HR(sM:ae):∀l:Y Bs,pS (l.map λk=>ep k sM)=.ok l
 |[]=>rfl
 |x::r=>by rw[bN,pS,td,HR sM r]
theorem LP:∀(w:Bs) (l:Y Bs),(∀b∈w::l,tL b/\b≠[])->fy (w++l.flatMap λb=>32::b)=w::l/\HQ (w++l.flatMap λb=>32::b)
 |w,[],h=>by
  have:=h w dW;rw[List.flatMap_nil,bj];exact⟨SC this.1 this.2,pW this.1⟩
 |w,a::r,h=>by
  have h1:=h w dW;obtain⟨h2,h3⟩:=LP a r λb hb=>h b (by simp[hb]);rw[ei,bh];exact⟨by rw[LO h1.1 h1.2,h2],(pW h1.1).app h3.sp⟩
theorem HS(w:Bs)(l nd:Y Bs)(a:jY)(hv:∀b∈w::l,tL b/\b≠[]:=by
 simp only[List.forall_mem_cons]
 repeat' apply And.intro
 all_goals first|exact oG _ _|exact BJ _ _|exact aP3 _|exact bx6 _|exact tL.lit _ eK|decide|exact tL.cons (BI _ ‹_›) (tL.cons (BI _ ‹_›) tL.nil)|(intro b hb;cases hb)|simp)
 (h35:w.headD 0≠35:=by decide)(hs:(By w).map Sh.iU=aN nd:=by kernel_rfl)
 (hn:j8 nd ⟨w,[],[]⟩ l=.ok a.cmd:=by
  (repeat(first|rw[bx7 (td _ _)]|rw[bX9 ‹_›]|rw[bY0 (Pn _ _ ‹_› ‹_›)]|rw[bY1 eK eK eK eK eK]))
  rfl)
 (hm:a.may:=by exact⟨by grind,by first|grind|(intro t h;simp at h;simp[h]),by simp,by grind⟩)(hw:a.wt<=(w++l.flatMap λb=>32::b).length+1:=by grind [HP]):nx (w++l.flatMap λb=>32::b) a:=
 as3 nd (LP w l hv).2 (LP w l hv).1 h35 hs hn hm hw
theorem aP4(hk:k<1000000000):nx ([102,97,105,108]++32::(bB k)) (.fail k):=by
 simpa using HS [102,97,105,108] [bB k] [[110]] (.fail k)
theorem as4(hk:k<1000000000):nx ([99,114,97,115,104]++32::(bB k)) (.jU k):=by
 simpa using HS [99,114,97,115,104] [bB k] [[110]] (.jU k)
theorem aP5(hk:k<1000000000):nx ([100,105,115,107]++32::(bB k)) (.Ei k):=by
 simpa using HS [100,105,115,107] [bB k] [[110]] (.Ei k)
theorem aP6(hk:k<1000000000):nx ([98,114,101,97,107]++32::(bB k++32::([98,101,104,105,110,100]))) (.brk k [98,101,104,105,110,100]):=by
 simpa using HS [98,114,101,97,107] [bB k,[98,101,104,105,110,100]] [[110],[98,101,102,111,114,101,124,98,101,104,105,110,100]] (.brk k [98,101,104,105,110,100])
theorem aP7(hk:k<1000000000):nx ([98,114,101,97,107]++32::(bB k++32::([98,101,102,111,114,101]))) (.brk k [98,101,102,111,114,101]):=by
 simpa using HS [98,114,101,97,107] [bB k,[98,101,102,111,114,101]] [[110],[98,101,102,111,114,101,124,98,101,104,105,110,100]] (.brk k [98,101,102,111,114,101])
theorem Ux:nx ([117,115,101,100]) (.used):=by
 simpa using HS [117,115,101,100] [] [] (.used)
theorem Uy:nx ([115,121,110,99]) (.sync):=by
 simpa using HS [115,121,110,99] [] [] (.sync)
theorem Ps:nx ([109,101,114,103,101]) (.merge):=by
 simpa using HS [109,101,114,103,101] [] [] (.merge)
theorem HT:nx ([99,108,111,115,101]) (.close):=by
 simpa using HS [99,108,111,115,101] [] [] (.close)
theorem Uz:nx ([107,101,121,115]) (.keys):=by
 simpa using HS [107,101,121,115] [] [] (.keys)
theorem as5:nx ([97,108,108]) (.all):=by
 simpa using HS [97,108,108] [] [] (.all)
theorem LQ:nx ([108,97,115,116]) (.last):=by
 simpa using HS [108,97,115,116] [] [] (.last)
theorem aP8(hk:k<1000000000)(j:ab)(hj:j<1000000000):nx ([111,112,101,110]++32::([100,101,101,112]++32::(bB k++32::(bB j)))) (.l8 [100,101,101,112] k j):=by
 simpa using HS [111,112,101,110] [[100,101,101,112],bB k,bB j] [[100,101,101,112,124,102,97,115,116],[110],[110]] (.l8 [100,101,101,112] k j)
theorem aP9(hk:k<1000000000)(j:ab)(hj:j<1000000000):nx ([111,112,101,110]++32::([102,97,115,116]++32::(bB k++32::(bB j)))) (.l8 [102,97,115,116] k j):=by
 simpa using HS [111,112,101,110] [[102,97,115,116],bB k,bB j] [[100,101,101,112,124,102,97,115,116],[110],[110]] (.l8 [102,97,115,116] k j)
theorem SD(hq:q.length<=100000)(h:ae)(r:Bs)(hr:r.length<=100000)(g:ae):nx ([112,117,116]++32::(ep q h++32::(ep r g))) (.put q r):=by
 simpa using HS [112,117,116] [ep q h,ep r g] [[116],[116]] (.put q r)
theorem as6(hq:q.length<=100000)(h:ae):nx ([103,101,116]++32::(ep q h)) (.get q):=by
 simpa using HS [103,101,116] [ep q h] [[116]] (.get q)
theorem bx8(hq:q.length<=100000)(h:ae)(r:Bs)(hr:r.length<=100000)(g:ae):nx ([108,97,121]++32::(ep q h++32::(ep r g))) (.dm (.lay q r)):=by
 simpa using HS [108,97,121] [ep q h,ep r g] [[116],[116]] (.dm (.lay q r))
theorem aQ0(hq:q.length<=100000)(h:ae)(k:ab)(hk:k<1000000000)(x y:ab)(hx:x<16)(hy:y<16):nx ([102,108,105,112]++32::(ep q h++32::(bB k++32::([ji x,ji y])))) (.dm (.flip q k (16*x+y))):=by
 simpa using HS [102,108,105,112] [ep q h,bB k,[ji x,ji y]] [[116],[110],[120]] (.dm (.flip q k (16*x+y)))
theorem bx9(hq:q.length<=100000)(h:ae)(k:ab)(hk:k<1000000000):nx ([99,117,116]++32::(ep q h++32::(bB k))) (.dm (.cut q k)):=by
 simpa using HS [99,117,116] [ep q h,bB k] [[116],[110]] (.dm (.cut q k))
theorem aQ1(hq:q.length<=100000)(h:ae):nx ([108,111,115,101]++32::(ep q h)) (.dm (.Iy q)):=by
 simpa using HS [108,111,115,101] [ep q h] [[116]] (.dm (.Iy q))
theorem aQ2(hq:q.length<=100000)(h:ae)(r:Bs)(hr:r.length<=100000)(g:ae):nx ([99,111,112,121]++32::(ep q h++32::(ep r g))) (.dm (.copy q r)):=by
 simpa using HS [99,111,112,121] [ep q h,ep r g] [[116],[116]] (.dm (.copy q r))
theorem aQ3(hq:q.length<=100000)(h:ae)(r:Bs)(hr:r.length<=100000)(g:ae):nx ([109,111,118,101]++32::(ep q h++32::(ep r g))) (.dm (.move q r)):=by
 simpa using HS [109,111,118,101] [ep q h,ep r g] [[116],[116]] (.dm (.move q r))
theorem aQ4(hq:q.length<=100000)(h:ae):nx ([114,101,97,100]++32::(ep q h)) (.read q):=by
 simpa using HS [114,101,97,100] [ep q h] [[116]] (.read q)
theorem BK:nx [32,32,102,105,108,101,115,32] .files:=by
 refine as3 (w:=[102,105,108,101,115]) (args:=[]) [] (λx hx=>?_) eK eK iB U ⟨λn hn=>(by cases hn),λt ht=>(by cases ht),(by decide:0<=100000),λn k x e=>(by cases e)⟩ eK;simp only[cW,List.not_mem_nil,or_false]at hx;rcases hx with rfl|rfl|rfl|rfl|rfl|rfl|rfl|rfl<;>decide
theorem aQ5(hq:q.length<=100000)(h:ae)(r:Bs)(hr:r.length<=100000)(g:ae):nx ([112,117,116]++32::(ep q h++32::32::ep r g)) (.put q r):=by
 have h1:=SD q hq h r hr g
 refine⟨(pW (tL.lit [112,117,116] eK)).app (HQ.sp ((pW (oG q h)).app (HQ.sp (HQ.sp (pW (oG r g)))))),?_,h1.may,?_⟩
 ·refine lnE (w:=[112,117,116]) (r:=[ep q h,ep r g]) ((pW (tL.lit [112,117,116] eK)).app (HQ.sp ((pW (oG q h)).app (HQ.sp (HQ.sp (pW (oG r g))))))) (by grind [LO,tL.lit,oG,BJ,bQ1,SC]) eK ?_;unfold um;dsimp only;rw[show By [112,117,116]=aN ⟨[112,117,116],[[116],[116]],aO,aN 99⟩from by kernel_rfl];dsimp only;rw[bx7 (td q h),bx7 (td r g)];rfl
 grind
def ID(sM:ae)(ks:Y Bs):Bs:=[100,101,108]++ks.flatMap λk=>32::ep k sM
theorem Pu(sM:ae):∀(w:Bs),tL w->w≠[]->∀ks:Y Bs,fy (w++ks.flatMap λk=>32::ep k sM)=w::ks.map λk=>ep k sM
 |w,hv,hn,[]=>by grind [SC]
 |w,hv,hn,k::r=>by rw[ei,bh,LO hv hn,Pu sM _ (oG k sM) (BJ k sM) r];rfl
theorem Pv(sM:ae):∀ks:Y Bs,HQ (ks.flatMap λk=>32::ep k sM)
 |[]=>HQ.nil
 |k::r=>by rw[ei];exact(HQ.sp (pW (oG k sM))).app (Pv sM r)
theorem J7(sM:ae):∀ks:Y Bs,2*ks.length<=(ks.flatMap λk=>32::ep k sM).length
 |[]=>bz _
 |k::r=>by
  have:=J7 sM r
  grind [gL,BJ]
theorem as7(ks:Y Bs)(h0:ks≠[])(hl:ks.length<=100000)(hk:∀k∈ks,k.length<=100000):nx (ID sM ks) (.del ks):=by
 refine as3 (w:=[100,101,108]) (args:=ks.map λk=>ep k sM) [[84]] ((pW (tL.lit [100,101,108] eK)).app (Pv sM ks)) (Pu sM _ (tL.lit [100,101,108] eK) eK ks) eK iB ?_ ⟨λn hn=>(by cases hn),hk,hl,λn k x e=>(by cases e)⟩ ?_
 ·cases ks with
  |nil=>grind
  |cons k r=>
   have:=HR sM (k::r);rw[bN]at this ⊢;rw[bY2 this];rfl
 ·have:=J7 sM ks
  show 4+2*ks.length<=([100,101,108]++ks.flatMap λk=>32::ep k sM).length+1
  grind
structure LB where
 x:l9
 s:Bs
 w:Bs
def uu(x:l9)(p:ab×ab):aR:=match x.vN with
 |none=>.pointer aO
 |some _=>bu p.2
def vT(x:l9)(p:ab×ab):Y bG:=match x.vN with
 |none=>[]
 |some t=>[eL (p.2,p.1,0) t]
def lbC(B:ab)(y:LB)(p:ab×ab):Y bG:=[bx B 34 [bu p.1,uu y.x p,bn y.s,bn y.w],cJ p.1 y.x.ej,dZ (vT y.x p)]
def IE(B:ab)(y:LB):bG:=ex (lbC B y)
structure LB.ok(y:LB)(A:Y jY):Prop where
 wr:XL y.s A
 x:y.x=qU.after A
 w:y.w=qU.outs A
def LB.zT(y:LB)(l:Bs)(c:jY):LB:=⟨(y.x.do c).1,y.s++l++[10],y.w++(y.x.do c).2++[10]⟩
theorem Xk(a b:Y jY)(x:l9):x.after (a++b)=(x.after a).after b:=List.foldl_append
theorem LB.ok.zT{y:LB}(h:y.ok A){c:jY}(hl:nx l c):(y.zT l c).ok (A++[c]) where
 wr:=h.wr.snoc hl
 x:=by rw[Xk,<-h.x];rfl
 w:=by
  rw[HJ,<-h.x,<-h.w];show y.w++(y.x.do c).2++[10]=y.w++((y.x.do c).2++[10]++[]);simp
theorem J8:∀(A:Y jY) (c:jY) (x:l9),x.lZ (A++[c])->(x.after A).pre c
 |[],c,x,h=>h.1
 |a::r,c,x,h=>J8 r c _ h.2
theorem LB.ok.pre{y:LB}(h:y.ok A){c:jY}(hm:c.may)(hs:y.s.length+c.wt<=100000):y.x.pre c:=by
 rw[h.x];refine J8 A c qU (J4 (λa ha=>?_) ?_)
 ·rcases du.1 ha with h1|h1
  ·exact h.wr.may a h1
  grind
 ·have:=h.wr.wt
  grind
theorem as8(hm:∀a∈A,a.may)(hw:(A.map jY.wt).sum<=40000):(qU.outs A).length<=4000000000000000:=by
 have h1:=LM A
 have h2:=vV A ET hm bw bw
 refine bo h2 ?_
 have hf:Pf A<=6667:=bw
 have hy:xg A<=40000:=bw
 have hx:Sx A<=40000:=bw
 have e1:24*(200+300000*xg A)+190000000<=288190004800:=bw
 have e2:Pf A*(24*(200+300000*xg A)+190000000)<=1921362762001600:=bo (Nat.mul_le_mul hf e1) eK
 grind
theorem LB.ok.C2{y:LB}(h:y.ok A)(hs:y.s.length<=40000):y.w.length<=4000000000000000:=by
 rw[h.w];exact as8 h.wr.may (bo h.wr.wt hs)
theorem SE(G:dA)(B:ab)(d sv:aR)(s w l a:Bs)(h1:s.length+l.length+1<=9223372036854775807)(h2:w.length+a.length+1<=9223372036854775807):
 TR be G 9 #[bu B,bn l,bn a] [bx B 34 [d,sv,bn s,bn w]] (dC λv C=>v=.tuple #[]/\C=[bx B 34 [d,sv,bn (s++l++[10]),bn (w++a++[10])]]):=by
 refine jy U λb O hb hG=>xS ?_
 exact X.fin hb (.tmps U) ⟨_,⟨U,U⟩,bS.refl _⟩
theorem Ka(y:LB)(p:ab×ab):bS (lbC B y p) [IE B y]:=by
 have h:=iY (f:=lbC B y) p [];rw[bj]at h;exact h
theorem vZ(y:LB){b:bc}{O:de}{k:Kt}{E:Env}{H F:Y bG}{R:aZ->Y bG->Prop}{cc:ah (ar aW×Y aW)}[hf:FP H (IE B y) F](h:∀p,X be b O cc k E (lbC B y p++F) R):X be b O cc k E H R:=
 j9 λw hs=>by
  obtain⟨p,h1⟩:=jB (hs.dE hf.out)
  grind
theorem lv{B:ab}{y:LB}{c:jY}(p:ab×ab){d':cd}{sv:aR}{S:Y bG}(ha:(y.x.do c).2=a)(hsv:uu (y.x.do c).1 p=sv)(hd:(y.x.do c).1.ej=d')(hS:vT (y.x.do c).1 p=S)(h1:y.s.length+l.length+1<=9223372036854775807)(h2:y.w.length+a.length+1<=9223372036854775807):
 TR be GG 9 #[bu B,bn l,bn a] [bx B 34 [bu p.1,sv,bn y.s,bn y.w],cJ p.1 d',dZ S] (dC λv C=>v=.tuple #[]/\C=[IE B (y.zT l c)]):=by
 subst ha hsv hd hS
 refine kF (BX (SE GG B (bu p.1) (uu (y.x.do c).1 p) y.s y.w l (y.x.do c).2 h1 h2) [cJ p.1 (y.x.do c).1.ej,dZ (vT (y.x.do c).1 p)]) ?_
 rintro v C ⟨C',⟨h1,rfl⟩,rfl⟩
 exact⟨_,⟨h1,U⟩,Ka B (y.zT l c) p⟩
theorem lG(y:LB)(l:Bs)(c:jY):(y.zT l c).s.length=y.s.length+l.length+1:=by
 show(y.s++l++[10]).length=_
 grind
def Left(B:ab)(y:LB)(A:Y jY)(K:ab)(v:aR)(C:Y bG):Prop:=v=.tuple #[]/\∃y' A',LB.ok y' (A++A')/\y'.s.length<=y.s.length+K/\C=[IE B y']
theorem yu{k:ae}(h0: -9223372036854775808<=k)(h1:k<=9223372036854775807)(d:ab)(hd:2<=d): -9223372036854775808<=k.tdiv d/\k.tdiv d<=9223372036854775807:=by
 have h2:(k.tdiv d).natAbs=k.natAbs / (d:ae).natAbs:=Int.natAbs_tdiv k d
 have h3:k.natAbs / d<=k.natAbs / 2:=Nat.div_le_div_left hd eK
 grind
theorem aQ6(d:cd)(k:ae):0<=(d.fail k).2/\(d.fail k).2<=200:=by grind [cd.fail]
theorem as9(d:cd)(k:ae)(u:ai):0<=(d.break k u).2/\(d.break k u).2<=200:=by grind [cd.break]
section
variable {B:ab}{o:Op}{n:ab}{y:LB}{A:Y jY}
theorem Xl(ho:o.ok)(hk:pick (o.kind.tdiv 4) 6<=2)(hn:n<=997290027)(hy:y.ok A)(hs:y.s.length<=30000):TR be GG 10 #[bu B,o.val,bR n] [IE B y] (dC (Left B y A 100)):=by
 refine jy U λb O hb hG=>?_;obtain⟨d0,d1⟩: -9223372036854775808<=o.kind.tdiv 4/\o.kind.tdiv 4<=9223372036854775807:=yu ho.k0 ho.k1 4 eK;have I7:=kI (o.kind.tdiv 4) 6 d0 d1 eK;have SF:=hy.C2 bw;refine vZ B y λp=>?_;show X _ _ _ _ _ _ [bx B 34 [bu p.1,uu y.x p,bn y.s,bn y.w],cJ p.1 y.x.ej,dZ (vT y.x p)] _;refine xP ?_;intro b4;refine X.quo U U U U eK ?_;rw[wrap_i64 _ d0 d1];refine xJ I7 ?_;generalize hpq:pick (o.kind.tdiv 4) 6=q at*;refine xS ?_;match q,hk with
 |0,_=>
  refine bD 103 aP U cE (xS ?_);have hg:=ur o ho (n%30);have hgl:=xh o ho (n%30) bw;refine X.rem U U U U eK ?_;rw[show(n:ae).tmod 30=((n%30:ab):ae)from rfl];refine xJ hg ?_;generalize DV o (n%30)=k at*;refine xS ?_;obtain⟨e0,e1⟩:=aQ6 y.x.ej k;refine xE (NZ GG p.1 y.x.ej k bw) ?_;refine xJ (nE k bw) ?_;have hl9:=iW k bw;refine xJ (oE _ e0 bw) ?_;have HY:=fT (e:=(y.x.ej.fail k).2) ⟨by omega,by omega⟩;refine xS ?_;have pZ:=aP4 k bw;have vF:([102,97,105,108]++32::bB k:Bs).length<=40:=fD;rw[show([102,97,105,108,32]++bB k:Bs)=[102,97,105,108]++32::bB k from rfl];generalize([102,97,105,108]++32::bB k:Bs)=ln at*;refine xE (lv (y:=y) (d':=(y.x.ej.fail k).1) (sv:=uu y.x p) (S:=vT y.x p) (l:=ln) (a:=eH (y.x.ej.fail k).2) (c:=.fail k) p U U U U bw bw) ?_;exact UA
 |1,_=>
  refine bD 103 aQ U cE (xS ?_);have hg:=ur o ho (n%30);have hgl:=xh o ho (n%30) bw;refine X.rem U U U U eK ?_;rw[show(n:ae).tmod 30=((n%30:ab):ae)from rfl];refine xJ hg ?_;generalize DV o (n%30)=k at*;refine xS ?_;refine fU 9 [1,0] ?_;apply dB [0,1,2,3,4,5,6,7,8] U U U
  ·intro pp qb;refine xS ?_;refine X.rem U U U U eK ?_;rw[show(o.m:ae).tmod 2=((o.m%2:ab):ae)from rfl];exact Jz
  ·rfl
  ·rfl
  refine xS ?_;rw[show(((o.m%2:ab):ae)==0)=decide (o.m%2=0)from by rw[Bool.eq_iff_iff];simp;omega];have hbe:∀u:ai,0<=(y.x.ej.break k u).2/\(y.x.ej.break k u).2<=200:=as9 y.x.ej k;refine xE (Jn GG p.1 y.x.ej k (decide (o.m%2=0)) bw) ?_;refine X.rem U U U U eK ?_;rw[show(o.m:ae).tmod 2=((o.m%2:ab):ae)from rfl];refine xS ?_;by_cases hm:o.m%2=0
  ·rw[aK hm];refine bD 140 aP U fD ?_;obtain⟨e0,e1⟩:=hbe aP;refine xJ (nE k bw) ?_;have hl9:=iW k bw;refine xJ (oE _ e0 bw) ?_;have HY:=fT (e:=(y.x.ej.break k aP).2) ⟨by omega,by omega⟩;refine xS ?_;have pZ:=aP6 k bw;have vF:([98,114,101,97,107]++32::(bB k++32::[98,101,104,105,110,100]):Bs).length<=40:=fD;rw[show([98,114,101,97,107,32]++bB k++[32]++[98,101,104,105,110,100]:Bs)=[98,114,101,97,107]++32::(bB k++32::[98,101,104,105,110,100])from by simp];generalize([98,114,101,97,107]++32::(bB k++32::[98,101,104,105,110,100]):Bs)=ln at*;refine xE (lv (y:=y) (d':=(y.x.ej.break k aP).1) (sv:=uu y.x p) (S:=vT y.x p) (l:=ln) (a:=eH (y.x.ej.break k aP).2) (c:=.brk k [98,101,104,105,110,100]) p U U U U bw bw) ?_;exact UA
  ·rw[aM hm];refine bD 140 aQ U fD ?_;obtain⟨e0,e1⟩:=hbe aQ;refine xJ (nE k bw) ?_;have hl9:=iW k bw;refine xJ (oE _ e0 bw) ?_;have HY:=fT (e:=(y.x.ej.break k aQ).2) ⟨by omega,by omega⟩;refine xS ?_;have pZ:=aP7 k bw;have vF:([98,114,101,97,107]++32::(bB k++32::[98,101,102,111,114,101]):Bs).length<=40:=fD;rw[show([98,114,101,97,107,32]++bB k++[32]++[98,101,102,111,114,101]:Bs)=[98,114,101,97,107]++32::(bB k++32::[98,101,102,111,114,101])from by simp];generalize([98,114,101,97,107]++32::(bB k++32::[98,101,102,111,114,101]):Bs)=ln at*;refine xE (lv (y:=y) (d':=(y.x.ej.break k aQ).1) (sv:=uu y.x p) (S:=vT y.x p) (l:=ln) (a:=eH (y.x.ej.break k aQ).2) (c:=.brk k [98,101,102,111,114,101]) p U U U U bw bw) ?_;exact UA
 |2,_=>
  refine bD 103 aQ U cE (xS ?_);have hg:=ur o ho (n%100);have hgl:=xh o ho (n%100) bw;refine X.rem U U U U eK ?_;rw[show(n:ae).tmod 100=((n%100:ab):ae)from rfl];refine xJ hg ?_;generalize DV o (n%100)=k at*;refine xE (Jm GG p.1 y.x.ej k) ?_;refine xJ (nE k bw) ?_;have hl9:=iW k bw;refine xJ (oE 0 eK eK) ?_;have pZ:=as4 k bw;have vF:([99,114,97,115,104]++32::bB k:Bs).length<=40:=fD;rw[show([99,114,97,115,104,32]++bB k:Bs)=[99,114,97,115,104]++32::bB k from rfl];generalize([99,114,97,115,104]++32::bB k:Bs)=ln at*;refine hU [] ?_;refine xE (lv (y:=y) (d':=y.x.ej.jU k) (sv:=.pointer aO) (S:=[]) (l:=ln) (a:=[111,107]) (c:=.jU k) p U U U U bw fD) ?_;exact UA
end
end
section
variable{R:aZ->Y bG->Prop}{l:Y ca}{ds:Y Deferred}{b:bc}{O:de}{y:LB}{A:Y jY}{H:Y bG}{P:aT}{k:Kt}{B N:ab}(x:ca)(r:Y ca)(a:ah aX)(c:ab)(q:Y (WB ca))(n:Bs)
theorem xj(n:ab):ib (n:ae)=bB n:=by
 grind [ib]
section
variable {B:ab}{o:Op}{n:ab}{y:LB}{A:Y jY}
theorem aQ7(ho:o.ok)(hk:pick (o.kind.tdiv 4) 6=3)(hn:n<=997290027)(hy:y.ok A)(hs:y.s.length<=30000):TR be GG 10 #[bu B,o.val,bR n] [IE B y] (dC (Left B y A 100)):=by
 refine jy U λb O hb hG=>?_;obtain⟨d0,d1⟩: -9223372036854775808<=o.kind.tdiv 4/\o.kind.tdiv 4<=9223372036854775807:=yu ho.k0 ho.k1 4 eK;have I7:=kI (o.kind.tdiv 4) 6 d0 d1 eK;rw[hk]at I7;have SF:=hy.C2 bw;have hpf:=hy.pre (c:=.files) BK.may bQ;have hpu:=λq (hq:LB.ok q (A++[.files])) (hqs:q.s.length<=30100)=>hq.pre (c:=.used) Ux.may bQ;refine vZ B y λp=>?_;show X _ _ _ _ _ _ [bx B 34 [bu p.1,uu y.x p,bn y.s,bn y.w],cJ p.1 y.x.ej,dZ (vT y.x p)] _;refine qV p.1 λeI=>?_;refine xP ?_;intro b4;refine X.quo U U U U eK ?_;rw[wrap_i64 _ d0 d1];refine xJ I7 ?_;refine cP (kj GG p.1 y.x.ej (by have:=hpf.2.1;omega)) ?_;rintro _ _ ⟨af,cf,rfl,rfl⟩;dsimp only[bh,bk,bj];have sF:=mH y.x.ej;have nC:=hpf.2.1;have vP:=λf hf=>(@qg y.x.ej eI f hf);have hsf:=hy.zT BK;have hfb:(y.x.do .files).2=lu y.x.ej.all:=U;generalize hda:lu y.x.ej.all=fb at*;refine pX af cf (l:=y.x.ej.all) λq hq hqc It=>?_;rw[<-hq]at sF vP hda ⊢;simp only[bF]at sF ⊢;have vL:∀y∈q,y.1.name.length<=1000/\y.1.data.length<=4194304:=aH2;have Jf:∀i,(lu ((q.take i).map (·.1))).length<=q.length*4000+5:=λi=>by
  unfold lu
  rw[bK]
  have:=nT sC 4000 ((q.take i).map (·.1)) λf hf=>by
   grind [gA,eJ,sC]
  grind
 refine xS ?_;refine X.loop (ι:={z:ab // z<=q.length}) (λz=>([(0,bu B),(13,bn (lu ((q.take z.1).map (·.1)))),(14,.slice af q.length cf),(15,bR z.1)],[dp (cy bY) 2 af q,bx B 34 [bu p.1,uu y.x p,bn y.s,bn y.w],cJ p.1 y.x.ej,dZ (vT y.x p)])) (λz=>q.length - z.1)
  ⟨0,bp _⟩ (Sub.of U) bA ?_
 rintro⟨i,hi⟩ ih;dsimp only at hi ⊢;refine yB (i<q.length) (i=q.length) ?_ ?_<;>intro hi
 ·have ht:lu ((q.take (i+1)).map (·.1))=lu ((q.take i).map (·.1))++[32]++fw q[i].1.name++[32]++bB q[i].1.data.length:=by grind [lu,dO,sC,xj]
  have Ci:=vL _ (bE hi);have ih:=ih ⟨i+1,by omega⟩ bQ;dsimp only at ih;rw[ht]at ih;have Jf:=Jf i;generalize lu ((q.take i).map (·.1))=acc at*;refine ly af i hi λbt ot ha=>?_;subst ha;generalize q[i]=z at*;obtain⟨⟨nm,dt⟩,ya,yc⟩:=z;have Il:=gA nm;dsimp only at Ci ih ⊢;refine xS ?_;refine fG (sG [0,1,2,3,4,5,6,8,9,10,11,12,13,14,15,17]) [el (cy bY) 2 bt (ot+i*2) ((⟨nm,dt⟩,ya,yc):WB ca)] U ?_;apply dB [0,1,2,3,4,5,6,10,11,12,13,14,15] U U U
  ·intro pp qb;refine xS ?_;refine eA (j:=i) U U U U U hi (xS ?_);refine eA (j:=i) U U U U U hi (xS ?_);refine qP U U U 1 U U (xS ?_);exact qb
  ·rfl
  ·rfl
  refine xJ (sD nm bw) ?_;generalize fw nm=tk at*;refine xS ?_;apply dB [8,9] U U U
  ·exact LR
  ·rfl
  ·rfl
  refine xS ?_;have hil:=iW dt.length bw;refine xJ (nE dt.length bw) ?_;generalize bB dt.length=ti at*;exact Hm
 ·subst hi;have Jf:=Jf q.length;rw[bV]at Jf ⊢;rw[hda]at Jf ⊢;refine xH (lv (y:=y) (d':=y.x.ej) (sv:=uu y.x p) (S:=vT y.x p) (l:=[32,32,102,105,108,101,115,32]) (a:=fb) (c:=.files) p hfb U U U fD bw) ?_;have qN:=lG y [32,32,102,105,108,101,115,32] .files;simp only[bL,dU]at qN;generalize y.zT [32,32,102,105,108,101,115,32] .files=y2 at*;have hbig2:=hsf.C2 bw;have ZO:=(hpu y2 hsf bw).2.2;refine vZ B y2 λp2=>?_;show X _ _ _ _ _ _ (bx B 34 [bu p2.1,uu y2.x p2,bn y2.s,bn y2.w]::cJ p2.1 y2.x.ej::dZ (vT y2.x p2)::_) _;refine xE (NY GG p2.1 y2.x.ej) ?_;have hus':y2.x.ej.used<=4194304:=ZO;refine xJ (nE y2.x.ej.used bw) ?_;have hil:=iW y2.x.ej.used bw;refine xE (lv (y:=y2) (d':=y2.x.ej) (sv:=uu y2.x p2) (S:=vT y2.x p2) (l:=[117,115,101,100]) (a:=[117,115,101,100,32]++bB y2.x.ej.used) (c:=.used) p2 (by rw[<-xj];rfl) U U U fD fD) ?_;exact X.fin hb (.tmps U) ⟨_,⟨U,_,[.files,.used],by have:=hsf.zT Ux;rwa [cB]at this,by grind [lG],U⟩,bA⟩
theorem X.cut{ι:Type}{kk:Y Item}{g:Prop}(st:ι->Y (ab×aR)×Y bG)(main:(∀i,X P b O aO (.it kk) ⟨N,(st i).1,ds⟩ (st i).2 R)->g)(fin:∀i,X P b O aO (.it kk) ⟨N,(st i).1,ds⟩ (st i).2 R):g:=main fin
theorem at0(k:ae):mh k []=(aO,70)\/∃s,mh k []=(aN s,0):=by
 grind [mh,laid,iq]
theorem aQ8(ho:o.ok)(hk:pick (o.kind.tdiv 4) 6=4)(hy:y.ok A)(hs:y.s.length<=30000):TR be GG 10 #[bu B,o.val,bR n] [IE B y] (dC (Left B y A 100)):=by
 refine jy U λb O hb hG=>?_;obtain⟨d0,d1⟩: -9223372036854775808<=o.kind.tdiv 4/\o.kind.tdiv 4<=9223372036854775807:=yu ho.k0 ho.k1 4 eK;have I7:=kI (o.kind.tdiv 4) 6 d0 d1 eK;rw[hk]at I7;have SF:=hy.C2 bw;refine vZ B y λp=>?_;show X _ _ _ _ _ _ [bx B 34 [bu p.1,uu y.x p,bn y.s,bn y.w],cJ p.1 y.x.ej,dZ (vT y.x p)] _;refine xP ?_;intro b4;refine X.quo U U U U eK ?_;rw[wrap_i64 _ d0 d1];refine xJ I7 ?_;refine X.rem U U U U eK ?_;rw[show(n:ae).tmod 19999999=((n%19999999:ab):ae)from rfl];refine X.mul U U U U bw bw ?_;have hk9:n%19999999*50<1000000000:=bw;rw[show((n%19999999:ab):ae)*50=((n%19999999*50:ab):ae)from by omega];generalize n%19999999*50=k at*;refine xS ?_;refine Kg AP 2 ?_;refine cP (x9 GG k aO 0 0 [] U eK dW) ?_;have pZ:=aP5 k hk9;have hl9:=iW k bw;have vF:([100,105,115,107]++32::bB k:Bs).length<=40:=fD;have qL:y.x.do (.Ei k)=y.x.new (mh k []):=U;rcases at0 k with hn|⟨s,hn⟩
 ·rw[hn]at qL ⊢;rintro _ _ ⟨rfl,rfl⟩;refine xD ?_;refine xJ (nE k bw) ?_;refine xJ (oE 70 bw bw) ?_;have HY:=fT (e:=70) ⟨by omega,by omega⟩;rw[show([100,105,115,107,32]++bB k:Bs)=[100,105,115,107]++32::bB k from rfl];generalize([100,105,115,107]++32::bB k:Bs)=ln at*;refine xE (lv (y:=y) (d':=y.x.ej) (sv:=uu y.x p) (S:=vT y.x p) (l:=ln) (a:=eH 70) (c:=.Ei k) p rC rC rC rC bw bw) ?_;exact by0
 ·rw[hn]at qL ⊢;rintro _ _ ⟨D1,rfl,rfl⟩;refine xD ?_;refine xJ (nE k bw) ?_;refine xJ (oE 0 bw bw) ?_;have HY:=fT (e:=0) ⟨by omega,by omega⟩;rw[show([100,105,115,107,32]++bB k:Bs)=[100,105,115,107]++32::bB k from rfl];generalize([100,105,115,107]++32::bB k:Bs)=ln at*;refine hU [] ?_;refine xE (lv (y:=y) (d':=s) (sv:=.pointer aO) (S:=[]) (l:=ln) (a:=eH 0) (c:=.Ei k) (D1,0) rC rC rC rC bw bw) ?_;exact by0
theorem aQ9(ho:o.ok)(hk:pick (o.kind.tdiv 4) 6=5)(hn:n<=997290027)(hy:y.ok A)(hs:y.s.length<=30000):TR be GG 10 #[bu B,o.val,bR n] [IE B y] (dC (Left B y A 100)):=by
 refine jy U λb O hb hG=>?_
 obtain⟨d0,d1⟩: -9223372036854775808<=o.kind.tdiv 4/\o.kind.tdiv 4<=9223372036854775807:=yu ho.k0 ho.k1 4 eK
 have I7:=kI (o.kind.tdiv 4) 6 d0 d1 eK
 rw[hk]at I7
 have SF:=hy.C2 bw
 have hg:=ur o ho (o.m%5)
 have hgl:=xh o ho (o.m%5) bw
 generalize DV o (o.m%5)=k2 at*
 obtain⟨tb,htb,pZ,vF,hfa⟩:∃tb:Bs,tb=(if o.n%2=0 then[102,97,115,116]else[100,101,101,112])/\nx ([111,112,101,110]++32::(tb++32::(bB n++32::(bB k2)))) (.l8 tb n k2)/\tb.length=4/\(tb==kM)=decide (o.n%2=0):=by
  refine⟨_,U,?_⟩;split
  ·rename_i h;exact⟨aP9 n bw k2 bw,U,by rw[aK h];rfl⟩
  ·rename_i h;exact⟨aP8 n bw k2 bw,U,by rw[aM h];rfl⟩
 have hpo:=hy.pre (c:=.l8 tb n k2) pZ.may bQ
 have qL:y.x.do (.l8 tb n k2)=(⟨(gX y.x.ej n k2 (tb==kM)).1,match(gX y.x.ej n k2 (tb==kM)).2 with|.ok z=>aN z.1|.error _=>aO⟩,s9 (gX y.x.ej n k2 (tb==kM)).2):=U
 obtain⟨-,nC,qx,XI,hz,-⟩:=hpo
 rw[hfa]at XI hz qL
 refine vZ B y λp=>?_
 show X _ _ _ _ _ _ [bx B 34 [bu p.1,uu y.x p,bn y.s,bn y.w],cJ p.1 y.x.ej,dZ (vT y.x p)] _
 refine qV p.1 λeI=>?_
 have vR:=(BH eI n k2 (decide (o.n%2=0))).2.1
 have hol:(s9 (gX y.x.ej n k2 (decide (o.n%2=0))).2).length<=200:=by
  cases hr:(gX y.x.ej n k2 (decide (o.n%2=0))).2 with
  |error e=>exact bo (fT (vR e hr)) eK
  |ok z=>
   grind [eJ,vc,s9,bL]
 have hT:=Hh p.1 y.x.ej n k2 (decide (o.n%2=0)) nC qx XI
 generalize gX y.x.ej n k2 (decide (o.n%2=0))=res at*
 refine xP ?_
 intro b4
 refine X.quo U U U U eK ?_
 rw[wrap_i64 _ d0 d1]
 refine xJ I7 ?_
 refine iK (ι:={z:ab×aR×((ah aX×ab×ab)×ae×ae×ae)×aR×Y bG // sB p.1 res (.tuple #[z.2.1,.agg (Sb z.2.2.1).toArray,z.2.2.2.1]) z.2.2.2.2}) (λz=>([(0,bu B),(2,bR n),(4,bu b4),(18,z.1.2.1),(19,bu z.1.1),(20,z.1.2.2.2.1)],bx z.1.1 89 (Sb z.1.2.2.1)::bx b4 39 o.cs::bx B 34 [bu p.1,uu y.x p,bn y.s,bn y.w]::z.1.2.2.2.2)) ?fin ?main
 case main=>
  intro KK dF;refine fG (sG [0,1,2,3,4,5,6,7,8,10,11,12,13,14,16,17,18,19]) [bx B 34 [bu p.1,uu y.x p,bn y.s,bn y.w],bx b4 39 o.cs] U ?_;apply dB [0,1,2,3,4,5,6,7,8,10,11,12,13] U U U
  ·intro pp qb;refine xS ?_;refine X.rem U U U U eK ?_;rw[show(o.m:ae).tmod 5=((o.m%5:ab):ae)from rfl];refine xS ?_;refine X.rem U U U U eK ?_;rw[show(o.n:ae).tmod 2=((o.n%2:ab):ae)from rfl];exact Jz
  ·rfl
  ·rfl
  rw[show(((o.n%2:ab):ae)==0)=decide (o.n%2=0)from by grind];refine eN U U U U U ?_ ?_
  ·refine xJ hg ?_;apply dB [14] U U U
   ·exact LR
   ·rfl
   ·rfl
   refine eN U U U U U ?_ ?_
   ·refine cP hT ?_;rintro v C hO;obtain⟨q,⟨⟨fa,fn,fc⟩,m1,m2,m3⟩,e,rfl,hO⟩:=hO.shape;dsimp only at hO ⊢;refine X.dE (ew cH) (xD ?_);apply dB [16,17,18,19] U U U
    ·exact LR
    ·rfl
    ·rfl
    refine xA ?_;intro b6;exact X.less (dF ⟨(b6,q,((fa,fn,fc),m1,m2,m3),e,C),hO⟩) (Sub.of U) (bS.cons _ (bS.cons _ (bS.cons _ (oh _ _))))
   ·refine xA ?_;intro b6;exact bQ3
  ·refine xA ?_;intro b6;refine xJ hg ?_;exact bQ3
 case fin=>
  rintro⟨⟨b6,q,⟨⟨fa,fn,fc⟩,m1,m2,m3⟩,e,C⟩,hO⟩
  dsimp only at hO ⊢
  refine xS ?_
  refine X.rem U U U U eK ?_
  rw[show(o.n:ae).tmod 2=((o.n%2:ab):ae)from rfl]
  refine xS ?_
  refine iK (ι:=aA) (λ_=>([(0,bu B),(2,bR n),(4,bu b4),(18,q),(19,bu b6),(20,e),(21,bn (tb++[32]))],[bx b6 89 (Sb ((fa,fn,fc),m1,m2,m3)),bx b4 39 o.cs,bx B 34 [bu p.1,uu y.x p,bn y.s,bn y.w]]++C)) ?f2 ?m2
  case m2=>
   intro K2 h2;by_cases hm:o.n%2=0
   ·rw[ao hm]at htb;subst htb;refine bD 50 aP U fD (xS ?_);exact X.W (h2 ())
   ·rw[aj hm]at htb;subst htb;refine bD 50 aQ U fD (xS ?_);exact X.W (h2 ())
  case f2=>
   rintro⟨⟩
   dsimp only[bh,bk]
   refine xS ?_
   apply X.cut (P:=be) (b:=b) (O:=O) (N:=246) (ds:=[]) (λS:ab=>([(0,bu B),(2,bR n),(4,bu b4),(21,bn (tb++[32])),(22,bn (s9 res.2))],[bx B 34 [bu p.1,uu (y.x.do (.l8 tb n k2)).1 (p.1,S),bn y.s,bn y.w],cJ p.1 res.1,dZ (vT (y.x.do (.l8 tb n k2)).1 (p.1,S)),bx b4 39 o.cs]))
   case main=>
    intro h3;unfold sB at hO;obtain⟨d1,rr⟩:=res;cases rr with
    |error er=>
     obtain⟨mf,q',hv,rfl⟩:=hO;cases hv;have T2:=vR er U;refine xE (qI Hf er _ _ (.inr ⟨mf,q',U,U⟩) T2.1 (by have:=T2.2;omega)) ?_;refine mO U U U U U (xS ?_);have h3:=h3 0;dsimp only at h3;rw[qL]at h3;dsimp only[uu,vT]at h3;refine hU [] ?_;exact X.W h3
    |ok z=>
     obtain⟨S,fa',fn',fc',hv,rfl⟩:=hO;cases hv;obtain⟨HX,hz2,hz3,hz4⟩:=hz z U;refine xE (qI Hf 0 _ _ (.inl ⟨U,U,U⟩) eK eK) ?_;refine mO U U U U U (xS ?_);refine fG (sG [0,2,4,5,6,7,9,10,11,12,14,15,16,17,19]) [bx b6 89 [.slice fa fn fc,.int .u64 z.2.top.toNat,.int .i64 z.2.cG,.int .i64 z.2.dP]] U ?_;refine xL [0,6,7,11,12,16,17] ?_;refine xS ?_;refine cP (sA S p.1 z.1 HX) ?_;rintro _ _ ⟨ak,ck,rfl,rfl⟩;have hke:(if z.1.closed=aP then[]else z.1.dir.keys)=z.1.keys:=U;rw[hke];refine xD ?_;have l1:=iW z.1.keys.length bw;have l2:=vc z.2.top;have l3:=iW z.2.cG bw;have l4:=iW z.2.dP bw;have hob:s9 (.ok z)=[111,107,32]++bB z.1.keys.length++[32]++bB z.2.top.toNat++[32]++bB z.2.cG++[32]++bB z.2.dP:=by rw[<-xj,<-xj,<-xj];rfl
     rw[hob]at h3;refine xJ (nE z.1.keys.length bw) ?_;generalize bB z.1.keys.length=i1 at*;refine xS ?_;refine xL [4,5] ?_;refine xJ (vh z.2.top.toNat (by have:=z.2.top.toNat_lt;omega)) ?_;generalize bB z.2.top.toNat=i2 at*;refine xS ?_;refine xL [9,10] ?_;refine xJ (nE z.2.cG bw) ?_;generalize bB z.2.cG=i3 at*;refine xS ?_;refine xL [14,15] ?_;refine xJ (nE z.2.dP bw) ?_;generalize bB z.2.dP=i4 at*;refine xS ?_;have h3:=h3 S;dsimp only at h3;rw[qL]at h3;dsimp only[uu,vT]at h3;refine hU [eL (S,p.1,0) z.1] ?_;exact X.W h3
   case fin=>
    intro S;dsimp only;refine xS ?_;refine fG (sG [0,1,2,3,5,6,7,8,9,10,13,14]) [bx b4 39 o.cs] U ?_;apply dB [0,1,2,3,7,8,9,10,14] U U U
    ·intro pp qb;refine xS ?_;refine X.rem U U U U eK ?_;rw[show(o.m:ae).tmod 5=((o.m%5:ab):ae)from rfl];exact Jz
    ·rfl
    ·rfl
    refine xS ?_;have l1:=iW n bw;have l2:=iW k2 bw;have hln2:([111,112,101,110,32]++(tb++[32])++bB n++[32]++bB k2:Bs)=[111,112,101,110]++32::(tb++32::(bB n++32::bB k2)):=dW;have hll2:([111,112,101,110]++32::(tb++32::(bB n++32::bB k2)):Bs).length<=60:=fD;refine xJ (nE n bw) ?_;generalize bB n=i1 at*;refine xS ?_;apply dB [5,6] U U U
    ·exact LR
    ·rfl
    ·rfl
    refine xJ hg ?_;refine xJ (nE k2 bw) ?_;generalize bB k2=i2 at*;refine xS ?_;rw[hln2];generalize([111,112,101,110]++32::(tb++32::(i1++32::i2)):Bs)=ln at*;refine xE (lv (y:=y) (d':=res.1) (sv:=uu (y.x.do (.l8 tb n k2)).1 (p.1,S)) (S:=vT (y.x.do (.l8 tb n k2)).1 (p.1,S)) (l:=ln) (a:=s9 res.2) (c:=.l8 tb n k2) (p.1,S) vO U vO U bw bw) ?_;exact by0
end
instance:TFu be 107:=⟨_,_,_,Tryz.underlying107⟩
theorem ax1{d:ab}{vs:Y (ab×aR)}{ops:ar aW}{rest:Y aW}{ty:ab}{pos:aC}{af:ar Edge}{g:ah (ab×ai)}{t t':ab}{x:aY}{u:aR}[ht:TFu P t](hw:bO ops vs ⟨aN d,.binOp .eql t x (.const .nilFunc) t',ty,pos,af,g⟩=aN aP)(hn:bM d N=aP)(hx:fI vs x=aN u)(hi:Go.Sl.zY u=aP)(h:X P b O (aN (ops,rest)) k ⟨N,(d,.bool (!Go.Sl.aM7 u))::vs,ds⟩ H R):X P b O (aN (ops,⟨aN d,.binOp .eql t x (.const .nilFunc) t',ty,pos,af,g⟩::rest)) k ⟨N,vs,ds⟩ H R:=
 X.val U hn hw (λa w he _=>by
  have e1:=bU he hx;have e2:a.eval (.const .nilFunc)=.nilFunc:=U;obtain⟨ps,rs,v,Ik⟩:=ht.out;obtain⟨n,hn⟩:=sW;cases u<;>simp only[Go.Sl.zY,di]at hi;all_goals simp[aU,e1,e2,eqGuard,binOp,hn,gq,cI Ik,Go.Sl.aM7]) h
theorem An:∀(l:Y jY) {x:l9} {p n:ab},x.in p n->(∀a∈l,a.may)->∃p' n',(x.after l).in p' n'
 |[],x,p,n,h,_=>⟨p,n,h⟩
 |c::r,x,p,n,h,hm=>An r (BV h (hm c dW)) λa ha=>hm a (by simp[ha])
theorem LB.ok.inn(h:y.ok A):∃p n,y.x.in p n:=by
 rw[h.x];exact An A ET h.wr.may
theorem L5(B:ab)(y:LB)(p:ab×ab){E:Env}{F:Y bG}{cc:ah (ar aW×Y aW)}[hf:ES H [bx B 34 [bu p.1,uu y.x p,bn y.s,bn y.w],cJ p.1 y.x.ej,dZ (vT y.x p)] F](h:X be b O cc k E (IE B y::F) R):X be b O cc k E H R:=
 X.dE (hf.out.trans (je (Ka B y p) F)) h
def qJ(k:ab)(key v:Bs)(ks:Y Bs):jY:=match k with
 |0=>.put key v
 |1=>.put key v
 |2=>.put key v
 |3=>.del ks
 |4=>.get key
 |5=>.sync
 |6=>.all
 |7=>.keys
 |_=>.merge
theorem aR0{x:l9}(h:x.vN=aO)(k:ab)(key v:Bs)(ks:Y Bs):x.do (qJ k key v ks)=(x,w6):=by
 have e:∀f,x.pT f=(x,w6):=by grind [l9.pT]
 unfold qJ;split<;>exact e _
theorem Pw:∀(l:Y Bs) (m:ab),(l.flatMap Ee).take (m*1)=(l.take m).flatMap Ee
 |[],m=>by simp
 |a::r,0=>by simp
 |a::r,m+1=>by
  have:=Pw r m;rw[Nat.mul_one]at this ⊢;rw[ei,gK,ei,<-this];rfl
theorem BL{l:Bs}{c:jY}(h:y.x.do c=(y.x,w6))(h1:y.s.length+l.length+1<=9223372036854775807)(h2:y.w.length+5<=9223372036854775807):
 TR be GG 9 #[bu B,bn l,bn w6] [IE B y] (dC (λv C=>v=.tuple #[]/\C=[IE B (y.zT l c)])):=by
 have:=λp=>lv (B:=B) (y:=y) (l:=l) (a:=w6) (c:=c) p (d':=y.x.ej) (sv:=uu y.x p) (S:=vT y.x p) (by rw[h]) (by rw[h]) (by rw[h]) (by rw[h]) h1 h2
 refine Ko λp=>?_
 exact kF (this p) λv C hC=>⟨C,hC,bS.refl _⟩
section
variable {B:ab}{o:Op}{y:LB}{A:Y jY}
theorem Xm(ho:o.ok)(hy:y.ok A)(hs:y.s.length<=14100):TR be GG 14 #[bu B,o.val] [IE B y] (dC (Left B y A 14000)):=by
 refine bZ U λb O hb hG=>?_
 obtain⟨d0,d1⟩: -9223372036854775808<=o.kind.tdiv 4/\o.kind.tdiv 4<=9223372036854775807:=yu ho.k0 ho.k1 4 eK
 have I7:=kI (o.kind.tdiv 4) 9 d0 d1 eK
 have PF:=qi (o.kind.tdiv 4) (show 0<9 by decide)
 generalize pick (o.kind.tdiv 4) 9=k at*
 have qM:=ho.m1
 have D7:=ho.n1
 refine xP ?_
 intro b3
 have hk66:(o.a.take 66).length<=66:=bQ
 refine xJ (xi o.a 66) ?_
 generalize o.a.take 66=key at*
 refine xS ?_
 have hv3:(o.b.take 300).length<=1400:=bQ
 refine xJ (xi o.b 300) ?_
 generalize o.b.take 300=v0 at*
 refine xS ?_
 refine X.quo U U U U eK ?_
 rw[show eu.wrap ((o.m:ae).tdiv 40)=((o.m / 40:ab):ae)from vg o.m 40 bw]
 refine xJ (kI ((o.m / 40:ab):ae) 6 bw bw eK) ?_
 generalize pick ((o.m / 40:ab):ae) 6=q1 at*
 refine xS ?_
 refine tq [0,3,4] [] (ι:={v:Bs // v.length<=1400}) (λv q_=>(5,bn v.1)::q_) (λv q_=>q_) ?fin ?main
 case main=>
  intro KK dF;refine xB ?_ ?_<;>intro h
  ·refine xS ?_;refine fR [0,3,4] [] (ι:={v:Bs // v.length<=1400}) (λv q_=>(5,bn v.1)::q_) (λv q_=>q_) (λv=>1400 - v.1.length) ⟨v0,hv3⟩ ?_;rintro⟨v,hv⟩ ih;dsimp only at hv ⊢;refine xT 42 ?_ ?_<;>intro h0
   ·refine xT 46 ?_ ?_<;>intro h7
    ·refine xS ?_;have h0:0<v.length:=bQ;have h7:v.length<700:=bQ;exact X.W (ih ⟨v++v,by grind⟩ bQ)
    ·refine xS ?_;exact X.W (dF ⟨v,hv⟩)
   ·refine xS ?_;exact X.W (dF ⟨v,hv⟩)
  ·refine xS ?_;exact X.W (dF ⟨v0,hv3⟩)
 case fin=>
  rintro⟨v,hv⟩
  dsimp only
  refine xS ?_
  refine X.quo U U U U eK ?_
  rw[wrap_i64 _ d0 d1]
  refine xJ I7 ?_
  have hKs:∀m,m<=3->∃L:Y Bs,([key,v.take 9,v.take 3,key.take 2].flatMap Ee).take ((1+m)*1)=L.flatMap Ee/\L.length=1+m/\(∀k∈L,k.length<=66):=λm hm=>by
   refine⟨[key,v.take 9,v.take 3,key.take 2].take (1+m),Pw _ _,by simp;omega,λk hk=>?_⟩
   grind
  refine iK (ι:={z:Y Bs×ah aX×ab // z.1≠[]/\z.1.length<=4/\∀k∈z.1,k.length<=66}) (λz=>([(0,bu B),(3,bu b3),(4,bn key),(5,bn v),(6,bR k),(7,.slice z.1.2.1 z.1.1.length z.1.2.2)],[bx b3 39 o.cs,own 9 1 z.1.2.1 z.1.1.length z.1.2.2 (z.1.1.flatMap Ee),IE B y])) ?y7 ?a'3
  case a'3=>
   intro KK dF;have hq:=qi (o.m:ae) (show 0<4 by decide);have hpq:=kI (o.m:ae) 4 bw bw eK;generalize pick (o.m:ae) 4=q2 at*;obtain⟨L,hL1,hL2,hL3⟩:=hKs q2 bw;refine fG (sG [0,1,3,5,8,9,11]) [bx b3 39 o.cs] U ?_;apply dB [0,1,3,5,8,9] U U U
   ·exact LR
   ·rfl
   ·rfl
   refine xJ (xi v 9) ?_;refine xJ (xi v 3) ?_;refine xJ (xi key 2) ?_;refine eN U U U U U ?_ ?_
   ·refine xZ ?_;intro b61;refine xJ hpq ?_;exact bQ4
   ·refine xJ hpq ?_;apply dB [11] U U U
    ·exact LR
    ·rfl
    ·rfl
    refine xZ ?_;intro b61;exact bQ4
  case y7=>
  rintro⟨⟨ks,a7,c7⟩,mf,hk4,hk6⟩
  dsimp only at mf hk4 hk6 ⊢
  refine xS ?_
  refine X.quo U U U U eK ?_
  rw[show eu.wrap ((o.m:ae).tdiv 5)=((o.m / 5:ab):ae)from vg o.m 5 bw]
  refine xJ (kI ((o.m / 5:ab):ae) 8 bw bw eK) ?_
  generalize pick ((o.m / 5:ab):ae) 8=q3 at*
  refine xS ?_
  refine iK (ι:={z:Y Bs×ah aX×ab // z.1≠[]/\z.1.length<=66/\∀k∈z.1,k.length<=66}) (λz=>([(0,bu B),(3,bu b3),(4,bn key),(5,bn v),(6,bR k),(7,.slice z.1.2.1 z.1.1.length z.1.2.2)],[bx b3 39 o.cs,own 9 1 z.1.2.1 z.1.1.length z.1.2.2 (z.1.1.flatMap Ee),IE B y])) ?aE8 ?main3
  case main3=>
   intro KK dF;refine xB ?_ ?_<;>intro h
   ·refine xS ?_;refine X.loop (ι:={z:(Y Bs×ah aX×ab)×ab // z.2<=62/\z.1.1≠[]/\z.1.1.length<=4+z.2/\∀k∈z.1.1,k.length<=66}) (λz=>([(0,bu B),(3,bu b3),(4,bn key),(5,bn v),(6,bR k),(7,.slice z.1.1.2.1 z.1.1.1.length z.1.1.2.2),(8,bR z.1.2)],[bx b3 39 o.cs,own 9 1 z.1.1.2.1 z.1.1.1.length z.1.1.2.2 (z.1.1.1.flatMap Ee),IE B y])) (λz=>62 - z.1.2) ⟨((ks,a7,c7),0),by omega,mf,by omega,hk6⟩ (Sub.of U) bA ?_;rintro⟨⟨⟨L,a,c⟩,i⟩,hi,hLn,hLl,hLk⟩ ih;dsimp only at hi hLn hLl hLk ⊢;refine xS ?_;have hq:=qi (o.n:ae) (show 0<60 by decide);refine xJ (kI (o.n:ae) 60 bw bw eK) ?_;generalize pick (o.n:ae) 60=q4 at*;refine xB ?_ ?_<;>intro h
    ·have Ds:i<3+q4:=bQ;refine xS ?_;refine X.rem U U U U eK ?_;rw[show(i:ae).tmod 7=((i%7:ab):ae)from rfl];refine xJ (nE (i%7) bw) ?_;have hl20:=iW (i%7) bw;generalize bB (i%7)=w at*;refine xZ ?_;intro b85;refine fH (([107]++w:Bs)) U U U U bw U cE cE cE cE cE bw λa9 c9=>xS ?_;exact X.W (ih ⟨((L++[[107]++w],a9,c9),i+1),by omega,by simp,by grind,λk hk=>by
      grind⟩ bQ)
    ·refine xS ?_;exact X.W (dF ⟨(L,a,c),hLn,by grind,hLk⟩)
   ·refine xS ?_;exact X.W (dF ⟨(ks,a7,c7),mf,by grind,hk6⟩)
  case aE8=>
  clear mf hk4 hk6 ks a7 c7 hKs
  rintro⟨⟨ks,a7,c7⟩,mf,hk4,hk6⟩
  dsimp only at mf hk4 hk6 ⊢
  refine dR a7 Ee ks U U (λ_=>rfl) λ_=>xS ?_
  have Tp:∀i,(ID o.m (ks.take i)).length<=13300:=λi=>by
   unfold ID
   rw[bK]
   have:=nT (λk=>32::ep k o.m) 200 (ks.take i) λk hk=>by
    grind [oF]
   grind
  refine XQ [0,3,4,5,6,7] [] (ι:=aA) (λ_ q_=>(9,bn (ID o.m ks))::q_) (λ_ q_=>q_) ?fin4 ?main4
  case main4=>
   intro KK dF;refine fR [0,3,4,5,6,7] [] (ι:={z:ab // z<=ks.length}) (λz q_=>(9,bn (ID o.m (ks.take z.1)))::(10,bR z.1)::q_) (λz q_=>q_) (λz=>ks.length - z.1) ⟨0,bp _⟩ ?_;rintro⟨i,hi⟩ ih;dsimp only at hi ⊢;refine yB (i<ks.length) (i=ks.length) ?_ ?_<;>intro hi
   ·have ht:ID o.m (ks.take (i+1))=ID o.m (ks.take i)++[32]++ep ks[i] o.m:=by grind [ID,dO]
    have hkl6:=hk6 _ (bE hi);have Jf:=Tp i;have ih:=ih ⟨i+1,by omega⟩ bQ;dsimp only at ih;rw[ht]at ih;generalize ID o.m (ks.take i)=acc at*;refine xS ?_;refine ly a7 i hi λbt ot ha=>?_;subst ha;generalize ks[i]=ki at*;refine fG (sG [0,1,2,3,4,5,6,7,9]) [el (cy Ee) 1 bt (ot+i*1) ki,bx b3 39 o.cs] U ?_;apply dB [0,1,2,3,4,5,6,7] U U U
    ·intro pp qb;refine xS ?_;refine eA (j:=i) U U U U U hi (xS ?_);exact qb
    ·rfl
    ·rfl
    refine xS ?_;have HY:=oF ki o.m;refine xJ (vi ki bw o.m bw bw) ?_;generalize ep ki o.m=wk at*;exact Hm
   ·subst hi;rw[bV];exact JH
  case fin4=>
  rintro⟨⟩
  dsimp only
  have Tp:=Tp ks.length
  rw[bV]at Tp
  have UW:=as7 o.m ks mf bw λk hk=>bo (hk6 k hk) eK
  have bj9:=aQ5 key bw o.n v bw o.m
  have ZX:=SD key bw o.n v bw o.m
  have hget:=as6 key bw o.n
  have hwk:=vi key bw o.n bw bw
  have hwv:=vi v bw o.m bw bw
  have hwkl:=oF key o.n
  have hwvl:=oF v o.m
  generalize ep key o.n=wk at*
  generalize ep v o.m=wv at*
  generalize ID o.m ks=dl at*
  obtain⟨LS,hLS⟩:∃LS:Y Bs,LS=[[112,117,116,32]++wk++[32,32]++wv,[112,117,116,32]++wk++[32]++wv,[112,117,116,32]++wk++[32]++wv,dl,[103,101,116,32]++wk,[115,121,110,99],[97,108,108],[107,101,121,115],[109,101,114,103,101]]:=⟨_,U⟩
  have hLl:LS.length=9:=by rw[hLS];rfl
  have hLn:∀j (hj:j<LS.length),nx LS[j] (qJ j key v ks)/\LS[j].length<=13400:=λj hj=>by
   subst hLS;match j,hj with
   |0,_=>exact⟨by simpa[qJ]using bj9,by simp;omega⟩
   |1,_=>exact⟨by simpa[qJ]using ZX,by simp;omega⟩
   |2,_=>exact⟨by simpa[qJ]using ZX,by simp;omega⟩
   |3,_=>exact⟨UW,by simp;omega⟩
   |4,_=>exact⟨hget,by simp;omega⟩
   |5,_=>exact⟨Uy,by simp⟩
   |6,_=>exact⟨as5,by simp⟩
   |7,_=>exact⟨Uz,by simp⟩
   |8,_=>exact⟨Ps,by simp⟩
  refine xS ?_
  refine fG (sG [0,1,2,4,5,6,7,8,10,11,12,13,15,16,17,18,19,21,22,23,24,26,27,28,29,30,32,33,34,35,36,38,40]) [bx b3 39 o.cs] U ?_
  apply dB [0,1,2,6,7,8,11,12,13,17,18,19,22,23,24,28,29,30,33,34,35,36,40] U U U
  ·exact LR
  ·rfl
  ·rfl
  refine xJ hwk ?_
  refine xL [4,5] ?_
  refine xJ hwv ?_
  refine xL [10] ?_
  refine xJ hwk ?_
  refine xL [15,16] ?_
  refine xJ hwv ?_
  refine xL [21] ?_
  refine xJ hwk ?_
  refine xL [26,27] ?_
  refine xJ hwv ?_
  refine xL [32] ?_
  refine xJ hwk ?_
  refine me U U cE cE cE cE cE cE λb42=>?_
  refine EW b42 1 9 U U ?_
  refine dR (aN ⟨b42,0,aO⟩) Ee LS (by rw[hLS];rfl) hLl.symm (λ_=>rfl) λ_=>xS ?_
  refine dJ U U U U U (show k<LS.length by omega) hLl λbl ol=>?_
  obtain⟨pZ,vF⟩:=hLn k bw
  generalize LS[k]=ln at*
  refine xS ?_
  clear hLn hLS ZX bj9 hget UW hwk hwv
  have SF:=hy.C2 bw
  cases ir:y.x.vN with
  |none=>
   have qL:=aR0 ir k key v ks;refine vZ B y λp=>?_;have e1:uu y.x p=.pointer aO:=by grind [uu]
   show X _ _ _ _ _ _ (bx B 34 [bu p.1,uu y.x p,bn y.s,bn y.w]::cJ p.1 y.x.ej::dZ (vT y.x p)::_) _;rw[e1];refine xS ?_;rw[<-e1];refine L5 B y p ?_;refine xH (BL (y:=y) (l:=ln) qL bw bw) ?_;have jT:(y.zT ln (qJ k key v ks)).x=y.x:=by show(y.x.do _).1=_;rw[qL]
   have zp:=lG y ln (qJ k key v ks);have H3:=hy.zT pZ;generalize y.zT ln (qJ k key v ks)=y1 at*;have hb1:=H3.C2 bw;have Qt:y1.x.do .last=(y1.x,w6):=by show y1.x.pT _=_;unfold l9.pT;rw[jT,ir]
   refine xH (BL (y:=y1) (l:=[108,97,115,116]) Qt fD bw) ?_;have mX:(y1.zT [108,97,115,116] .last).x=y1.x:=by show(y1.x.do _).1=_;rw[Qt]
   have qx:=lG y1 [108,97,115,116] .last;have hy2:=H3.zT LQ;generalize y1.zT [108,97,115,116] .last=y2 at*;simp only[bL,dU]at qx;have S9:=hy2.C2 bw;have Tw:y2.x.do .close=(y2.x,w6):=by show y2.x.pT _=_;grind [l9.pT]
   refine xH (BL (y:=y2) (l:=[99,108,111,115,101]) Tw fD bw) ?_;refine xS ?_;exact cT hb (.tmps U) ⟨U,_,[qJ k key v ks,.last,.close],by have:=hy2.zT HT;rwa [cB,cB]at this,by grind [lG],U⟩
  |some t=>
   obtain⟨p0,n0,gj⟩:=hy.inn
   have aR1:=gj.st t ir
   have Rx:=gj.ok
   have SF:=hy.C2 bw
   have C6:=hy.pre pZ.may (by have:=pZ.wt;omega)
   refine vZ B y λp=>?_
   have e1:uu y.x p=bu p.2:=by grind [uu]
   have e2:vT y.x p=[eL (p.2,p.1,0) t]:=by grind [vT]
   show X _ _ _ _ _ _ (bx B 34 [bu p.1,uu y.x p,bn y.s,bn y.w]::cJ p.1 y.x.ej::dZ (vT y.x p)::_) _
   rw[e1,e2]
   refine mc [eL (p.2,p.1,0) t] ?_
   dsimp only[bh,bk,bj]
   simp only[List.append_eq,bk,bh]
   refine xS ?_
   refine iK (ι:=aA) (λ_=>([(0,bu B),(3,bu b3),(4,bn key),(5,bn v),(7,.slice a7 ks.length c7),(11,bn ln),(12,bu p.2),(162,bR k),(180,.bool (decide (k<=2)))],[bx b3 39 o.cs,dp (cy Ee) 1 a7 ks,bx B 34 [bu p.1,bu p.2,bn y.s,bn y.w],cJ p.1 y.x.ej,eL (p.2,p.1,0) t])) ?fin5 ?main5
   case main5=>
    intro KK dF;have dF:=dF ();by_cases h0:k=0
    ·subst h0;exact bk0
    refine bD 180 aQ U fD (xS ?_);by_cases h1:k=1
    ·subst h1;exact bk0
    refine bD 180 aQ U fD (xS ?_);by_cases h2:k=2
    ·subst h2;refine bD 180 aP U U ?_;exact X.W dF
    refine bD 180 aQ U fD ?_;exact X.less dF (s9_ U U U U U U U U (dI U fD)) bA
   case fin5=>
   rintro⟨⟩
   by_cases hk2:k<=2
   ·rw[show qJ k key v ks=.put key v from by
     rcases(show k=0\/k=1\/k=2 by omega)with rfl|rfl|rfl<;>rfl]at pZ C6
    refine bD 180 aP U bQ (xS ?_);obtain⟨-,nC,qb⟩:=C6;obtain⟨g1,g2,-⟩:=qb t ir;have vR:=(ER aR1 Rx key v).2.2;have qL:y.x.do (.put key v)=(⟨(t.put y.x.ej key v).1.2,aN (t.put y.x.ej key v).1.1⟩,eH (t.put y.x.ej key v).2):=iC ir _;refine cP (JU p.2 p.1 t y.x.ej key v bw g1 g2) ?_;rintro u C ⟨C1,XM,rfl⟩;have HY:=fT vR;have Xn:=vR.2;generalize t.put y.x.ej key v=r at*;refine X.dE (xl _ _ _) ?_;dsimp only[bh,bk,bj];refine xS ?_;refine cM hG (qI aK5 _ u C1 XM vR.1 bw) U U U (ew (cH (l₁:=[_,_,_,_,_]) (l₂:=C1))) ?_;rintro _ _ ⟨rfl,rfl⟩;dsimp only[bh,bk,bj];refine xS ?_;refine hU [eL (p.2,p.1,0) r.1.1] ?_;refine xH (lv (y:=y) (d':=r.1.2) (sv:=bu p.2) (S:=[eL (p.2,p.1,0) r.1.1]) (l:=ln) (a:=(eH r.2)) (c:=.put key v) p vO rC vO rC fD fD) ?_;exact at1
   refine bD 180 aQ U bQ (xS ?_)
   by_cases h3:k=3
   ·subst h3;rw[show qJ 3 key v ks=.del ks from rfl]at pZ C6;refine bD 193 aP U U (xS ?_);obtain⟨-,nC,-,qb⟩:=C6;obtain⟨N,g1,g2,-⟩:=qb t ir;have vR:=(vf aR1 Rx ks).2.2;have qL:y.x.do (.del ks)=(⟨(t.delete y.x.ej ks).1.2,aN (t.delete y.x.ej ks).1.1⟩,eH (t.delete y.x.ej ks).2):=iC ir _;refine cP (Bu p.2 p.1 t y.x.ej a7 ks.length c7 ks U N g1 g2 bw) ?_;rintro u C ⟨C1,XM,rfl⟩;have HY:=fT vR;have Xn:=vR.2;generalize t.delete y.x.ej ks=r at*;refine X.dE (xl _ _ _) ?_;dsimp only[bh,bk,bj];refine xS ?_;refine cM hG (qI yl _ u C1 XM vR.1 bw) U U U (ew (cH (l₁:=[_,_,_,_]) (l₂:=C1))) ?_;rintro _ _ ⟨rfl,rfl⟩;dsimp only[bh,bk,bj];refine xS ?_;refine hU [eL (p.2,p.1,0) r.1.1] ?_;refine xH (lv (y:=y) (d':=r.1.2) (sv:=bu p.2) (S:=[eL (p.2,p.1,0) r.1.1]) (l:=ln) (a:=(eH r.2)) (c:=.del ks) p vO rC vO rC fD fD) ?_;exact at1
   refine bD 193 aQ U fD (xS ?_)
   by_cases h4:k=4
   ·subst h4
    rw[show qJ 4 key v ks=.get key from rfl]at pZ C6
    refine bD 203 aP U U (xS ?_)
    obtain⟨-,-,qb⟩:=C6
    obtain⟨g1,g2,-,g3⟩:=qb t ir
    have vR:=(BD (x:=t) Rx key).2.1
    have qL:y.x.do (.get key)=(⟨(t.get y.x.ej key).1,aN t⟩,WR (t.get y.x.ej key).2):=iC ir _
    refine cP (CO p.2 p.1 t y.x.ej key g1 g2) ?_
    rintro _ C ⟨u,rfl,C1,XM,rfl⟩
    have HY:=fT vR
    have Xn:=vR.2
    generalize t.get y.x.ej key=r at*
    obtain⟨dd,val,is,e⟩:=r
    dsimp only at HY vR Xn g3 XM qL ⊢
    refine xS ?_
    have Il:=gA val
    refine iK (ι:=aA) (λ_=>([(0,bu B),(11,bn ln),(17,u),(18,bn (if is=aQ then[110,111,116,104,105,110,103]else[61,32]++fw val))],C1++[eL (p.2,p.1,0) t,cJ p.1 dd,bx B 34 [bu p.1,bu p.2,bn y.s,bn y.w]])) ?fin6 ?main6
    case main6=>
     intro KK dF;have dF:=dF ();rw[cB];dsimp only[bh,bk,bj];cases is with
     |false=>
      refine xS ?_;exact X.less dF (Sub.of U) (bS.app _ bA)
     |true=>
      refine xJ (sD val bw) ?_;exact X.less dF (Sub.of U) (bS.app _ bA)
    case fin6=>
    rintro⟨⟩
    dsimp only
    have hgl:(if is=aQ then([110,111,116,104,105,110,103]:Bs)else[61,32]++fw val).length<=400000000:=bQ
    have hgo:WR (val,is,e)=if e≠0 then eH e else if is=aQ then[110,111,116,104,105,110,103]else[61,32]++fw val:=U
    generalize(if is=aQ then([110,111,116,104,105,110,103]:Bs)else[61,32]++fw val)=an at*
    rcases XM with⟨rfl,rfl,rfl⟩|⟨mf,pe,rfl,rfl⟩
    ·rw[aj dW]at hgo;rw[hgo]at qL;dsimp only[bh,bk,bj];refine xS ?_;refine mO U U U U U (xS ?_);refine hU [eL (p.2,p.1,0) t] ?_;refine xH (lv (y:=y) (d':=dd) (sv:=bu p.2) (S:=[eL (p.2,p.1,0) t]) (l:=ln) (a:=an) (c:=.get key) p vO rC vO rC fD fD) ?_;exact at1
    ·rw[ao mf]at hgo;rw[hgo]at qL;dsimp only[bh,bk,bj];refine xS ?_;refine mO U U U U U  ?_;refine xH (qI aK4 e _ _ (.inr ⟨mf,pe,U,U⟩) vR.1 bw) ?_;refine xS ?_;refine hU [eL (p.2,p.1,0) t] ?_;refine xH (lv (y:=y) (d':=dd) (sv:=bu p.2) (S:=[eL (p.2,p.1,0) t]) (l:=ln) (a:=(eH e)) (c:=.get key) p vO rC vO rC fD fD) ?_;exact at1
   refine bD 203 aQ U fD (xS ?_)
   by_cases h5:k=5
   ·subst h5
    rw[show qJ 5 key v ks=.sync from rfl]at pZ C6
    refine bD 224 aP U U (xS ?_)
    skip
    have vR:=(BE aR1 Rx).2.2
    have qL:y.x.do (.sync)=(⟨(t.sync y.x.ej).1.2,aN (t.sync y.x.ej).1.1⟩,eH (t.sync y.x.ej).2):=iC ir _
    refine cP (Hd p.2 p.1 t y.x.ej) ?_
    rintro u C ⟨C1,XM,rfl⟩
    have HY:=fT vR
    have Xn:=vR.2
    generalize t.sync y.x.ej=r at*
    refine X.dE (xl _ _ _) ?_
    dsimp only[bh,bk,bj]
    refine xS ?_
    refine cM hG (qI JV _ u C1 XM vR.1 bw) U U U (ew (cH (l₁:=[_,_,_,_,_]) (l₂:=C1))) ?_
    rintro _ _ ⟨rfl,rfl⟩
    dsimp only[bh,bk,bj]
    refine xS ?_
    refine hU [eL (p.2,p.1,0) r.1.1] ?_
    refine xH (lv (y:=y) (d':=r.1.2) (sv:=bu p.2) (S:=[eL (p.2,p.1,0) r.1.1]) (l:=ln) (a:=(eH r.2)) (c:=.sync) p vO rC vO rC fD fD) ?_
    exact at1
   refine bD 224 aQ U fD (xS ?_)
   by_cases h6:k=6
   ·subst h6;rw[show qJ 6 key v ks=.all from rfl]at pZ C6;refine bD 233 aP U U (xS ?_);obtain⟨-,-,qb⟩:=C6;obtain⟨g1,g2,g3,g4,hk⟩:=qb t ir;have hit:=λq=>T9 q p.2 p.1 t y.x.ej g1 g2 g3;have qL:y.x.do .all=(⟨(t.all y.x.ej).2,aN t⟩,vd (t.all y.x.ej).1):=iC ir _;generalize t.all y.x.ej=r at*;obtain⟨L,d1⟩:=r;dsimp only at hit g4 hk qL ⊢;have nC:∀l:Y (Bs×Bs),(∀z∈l,z∈L)->l.length<=L.length->(vd l).length<=L.length*700000000+3:=λl hl vF=>by
     unfold vd;rw[bK];have:=nT (λx:Bs×Bs=>32::(fw x.1++32::fw x.2)) 700000000 l λy hy=>by
      grind [gA]
     exact bh3
    refine xA ?_;intro b20;refine cP (JW GG p.2) ?_;rintro _ _ ⟨q,rfl,rfl⟩;dsimp only[bh,bk,bj];refine xS ?_;refine ax1 U U U U (xS ?_);refine II hG hb (hit q) U (λpre=>[bx b20 9 [bn (vd pre)]]) [bx b20 9 [bn [97,108,108]]] U (λ_=>rfl) eK ?_ ?_
    ·intro b' β' l' r pre z post hx mM BS hr;have sF:vd (pre++[z])=vd pre++[32]++fw z.1++[32]++fw z.2:=by grind [vd]
     have Jf:=nC pre (λz hz=>by rw[hx];simp[hz]) (by rw[hx,bK];omega);have Ci:=hk z (by rw[hx];simp);rw[sF];generalize vd pre=acc at*;obtain⟨kk,vv⟩:=z;have Il:=gA kk;have htv:=gA vv;dsimp only[AB]at Ci Il htv ⊢;refine xS ?_;refine qO mM hr (xS ?_);refine ph [0,1,2,4,5,6,8] [1] ?_;apply dB [0,1,2,6] U U U
     ·exact LR
     ·rfl
     ·rfl
     refine xS ?_;refine jJ BS (sD kk bw) U U U ?_;generalize fw kk=tk at*;refine xS ?_;refine xL [4,5] ?_;refine xS ?_;refine jJ BS (sD vv bw) U U U ?_;generalize fw vv=tv at*;refine xS ?_;exact lT mM
    ·intro D2;dsimp only[bh,bk,bj];refine xS ?_;have sF:=nC L (λ_ h=>h) (bz _);generalize vd L=al at*;refine hU [eL (p.2,p.1,0) t] ?_;refine xH (lv (y:=y) (d':=d1) (sv:=bu p.2) (S:=[eL (p.2,p.1,0) t]) (l:=ln) (a:=al) (c:=.all) p vO rC vO rC fD fD) ?_;refine xS ?_;exact aw5 hb (.tmps U) ⟨_,⟨U,_,_,hy.zT pZ,by grind [lG],U⟩,bA⟩
   refine bD 233 aQ U fD (xS ?_)
   by_cases h7:k=7
   ·subst h7;rw[show qJ 7 key v ks=.keys from rfl]at pZ C6;refine bD 258 aP U U (xS ?_);obtain⟨-,-,qb⟩:=C6;obtain⟨g1,g2,g3⟩:=qb t ir;have at2:y.x.do .keys=(⟨y.x.ej,aN t⟩,py t.keys):=iC ir _;refine cP (sA p.2 p.1 t g1) ?_;rintro _ _ ⟨ak,ck,rfl,rfl⟩;have hke:(if t.closed=aP then[]else t.dir.keys)=t.keys:=U;rw[hke];dsimp only[bh,bk,bj];generalize t.keys=K at*;refine dR ak Ee K U U (λ_=>rfl) λ_=>?_;have nC:∀i,(py (K.take i)).length<=K.length*300000002+4:=λi=>by
     unfold py
     rw[bK]
     have:=bo (nT (λk=>32::fw k) 300000002 (K.take i) λy hy=>by
      grind [gA]) (eB _ (by grind:(K.take i).length<=K.length))
     grind
    refine xS ?_;refine X.loop (ι:={z:ab // z<=K.length}) (λz=>([(0,bu B),(11,bn ln),(12,bu p.2),(24,bn (py (K.take z.1))),(25,.slice ak K.length ck),(26,bR z.1)],[dp (cy Ee) 1 ak K,bx B 34 [bu p.1,bu p.2,bn y.s,bn y.w],cJ p.1 y.x.ej,eL (p.2,p.1,0) t])) (λz=>K.length - z.1) ⟨0,bp _⟩ (Sub.of U) bA ?_;rintro⟨i,hi⟩ ih;dsimp only at hi ⊢;refine yB (i<K.length) (i=K.length) ?_ ?_<;>intro hi
    ·have ht:py (K.take (i+1))=py (K.take i)++[32]++fw K[i]:=bO0;have PF:=g3 _ (bE hi);have ih:=ih ⟨i+1,by omega⟩ bQ;dsimp only at ih;rw[ht]at ih;have Jf:=nC i;generalize py (K.take i)=acc at*;refine xS ?_;refine dJ U U U U U hi U λbl o=>?_;generalize K[i]=kk at*;have Il:=gA kk;refine xJ (sD kk bw) ?_;generalize fw kk=tk at*;exact Hm
    ·subst hi;have Jf:=nC K.length;rw[bV]at Jf ⊢;generalize py K=ka at*;refine xH (SE GG B (bu p.1) (bu p.2) y.s y.w ln ka bw bw) ?_;refine xS ?_;have H3:=hy.zT pZ;obtain⟨y1,LU⟩:∃y1,y1=y.zT ln .keys:=⟨_,U⟩;have Es:y.s++ln++[10]=y1.s:=by rw[LU];rfl
     have MS:y.w++ka++[10]=y1.w:=by rw[LU];show _=y.w++(y.x.do .keys).2++[10];rw[at2]
     have jT:y1.x=⟨y.x.ej,aN t⟩:=by rw[LU];show(y.x.do .keys).1=_;rw[at2]
     have zp:=lG y ln .keys;rw[<-LU]at H3 zp;rw[Es,MS];have bk1:=H3.C2 bw;refine xH (Hc GG p.2 p.1 t) ?_;refine xS ?_;have vF:=vc t.last;have qL:y1.x.do .last=(⟨y.x.ej,aN t⟩,[108,97,115,116,32]++bB t.last.toNat):=by
      have:=iC (x:=y1.x) (s:=t) WA λs=>((s,y1.x.ej),[108,97,115,116,32]++bB s.last.toNat);refine this.trans ?_;rw[jT]
     refine xJ (vh t.last.toNat (by have:=t.last.toNat_lt;omega)) ?_;generalize bB t.last.toNat=ld at*;refine xS ?_;refine hU [eL (p.2,p.1,0) t] ?_;refine xH (lv (y:=y1) (d':=y.x.ej) (sv:=bu p.2) (S:=[eL (p.2,p.1,0) t]) (l:=[108,97,115,116]) (a:=([108,97,115,116,32]++ld)) (c:=.last) p vO rC vO rC fD fD) ?_;refine xS ?_;exact X.fin hb (.tmps U) ⟨_,⟨U,_,[.keys,.last],by have:=H3.zT LQ;rwa [cB]at this,by grind [lG],U⟩,bA⟩
   refine bD 258 aQ U fD (xS ?_)
   obtain rfl:k=8:=bw
   rw[show qJ 8 key v ks=.merge from rfl]at pZ C6
   obtain⟨-,nC,qb⟩:=C6
   obtain⟨g1,g2,g3,-⟩:=qb t ir
   obtain⟨xy,hdk,vR,-⟩:=yr aR1 gj.n1 Rx
   have at2:y.x.do .merge=(⟨(t.merge y.x.ej).1.2,aN (t.merge y.x.ej).1.1⟩,eH (t.merge y.x.ej).2):=iC ir _
   have hdk:=hdk.ok
   refine cP (DP p.2 p.1 t y.x.ej g1 nC g2 g3) ?_
   rintro u C ⟨C1,XM,rfl⟩
   have HY:=fT vR
   have Xn:=vR.2
   generalize t.merge y.x.ej=r at*
   refine X.dE (xl _ _ _) ?_
   dsimp only[bh,bk,bj]
   refine xS ?_
   refine cM hG (qI CP _ u C1 XM vR.1 bw) U U U (ew (cH (l₁:=[_,_,_,_,_]) (l₂:=C1))) ?_
   rintro _ _ ⟨rfl,rfl⟩
   dsimp only[bh,bk,bj]
   refine xH (SE GG B (bu p.1) (bu p.2) y.s y.w ln (eH r.2) bw bw) ?_
   refine xS ?_
   have H3:=hy.zT pZ
   obtain⟨y1,LU⟩:∃y1,y1=y.zT ln .merge:=⟨_,U⟩
   have Es:y.s++ln++[10]=y1.s:=by rw[LU];rfl
   have MS:y.w++eH r.2++[10]=y1.w:=by rw[LU];show _=y.w++(y.x.do .merge).2++[10];rw[at2]
   have jT:y1.x=⟨r.1.2,aN r.1.1⟩:=by rw[LU];show(y.x.do .merge).1=_;rw[at2]
   have zp:=lG y ln .merge
   rw[<-LU]at H3 zp
   rw[Es,MS]
   have bk1:=H3.C2 bw
   refine X.rem U U U U eK ?_
   rw[show(o.m:ae).tmod 3=((o.m%3:ab):ae)from rfl]
   refine xB ?_ ?_<;>intro h
   ·refine xS ?_;have vR:=(yq xy hdk).2.2;have qL:y1.x.do .close=(⟨(r.1.1.close r.1.2).1.2,aN (r.1.1.close r.1.2).1.1⟩,eH (r.1.1.close r.1.2).2):=by
     have:=iC (x:=y1.x) (s:=r.1.1) WA λs=>((s.close y1.x.ej).1,eH (s.close y1.x.ej).2);refine this.trans ?_;rw[jT]
    refine cP (DO p.2 p.1 r.1.1 r.1.2) ?_;rintro u C ⟨C1,XM,rfl⟩;have HY:=fT vR;have Xn:=vR.2;generalize r.1.1.close r.1.2=r2 at*;refine X.dE (xl _ _ _) ?_;dsimp only[bh,bk,bj];refine xS ?_;refine cM hG (qI He _ u C1 XM vR.1 bw) U U U (ew (cH (l₁:=[_,_,_,_,_]) (l₂:=C1))) ?_;rintro _ _ ⟨rfl,rfl⟩;dsimp only[bh,bk,bj];refine xS ?_;refine hU [eL (p.2,p.1,0) r2.1.1] ?_;refine xH (lv (y:=y1) (d':=r2.1.2) (sv:=bu p.2) (S:=[eL (p.2,p.1,0) r2.1.1]) (l:=[99,108,111,115,101]) (a:=(eH r2.2)) (c:=.close) p vO rC vO rC fD fD) ?_;refine xS ?_;exact X.fin hb (.tmps U) ⟨_,⟨U,_,[.merge,.close],by have:=H3.zT HT;rwa [cB]at this,by grind [lG],U⟩,bA⟩
   ·refine xS ?_;refine Km (vT y1.x p) [eL (p.2,p.1,0) r.1.1] (by rw[jT];rfl) ?_;have e1:uu y1.x p=bu p.2:=by rw[jT];rfl
    have e2:y1.x.ej=r.1.2:=WA;rw[<-e1,<-e2];refine L5 B y1 p ?_;exact X.fin hb (.tmps U) ⟨_,⟨U,y1,_,H3,by omega,U⟩,bA⟩
end
def HU(l:Y ca)(n:Bs):ae:=match l.findIdx? (·.name=n)with|some i=>i|none=> -1
theorem Xo{n:Bs}{i:ab}(hi:i<l.length)(h:l[i].name=n)(hn:∀j (hj:j<l.length),j<i->l[j].name≠n):HU l n=i:=by
 grind [HU,cA]
theorem Xp{n:Bs}(hn:∀j (hj:j<l.length),l[j].name≠n):HU l n= -1:=by
 grind [HU,List.mem_iff_getElem]
theorem J9(hq:q.length<=1000000000000):TR be GG 38 #[.slice a q.length c,bn n] [own 70 2 a q.length c (q.flatMap bY)] (dC λv C=>v=.int .i64 (HU (q.map (·.1)) n)/\C=[own 70 2 a q.length c (q.flatMap bY)]):=by
 refine bZ U λb O hb hG=>xS ?_;refine fR [0,1] [] (ι:={i:ab // i<=q.length/\∀j (hj:j<q.length),j<i->q[j].1.name≠n}) (λi q_=>(5,bR i.1)::q_) (λi q_=>q_) (λi=>q.length - i.1) ⟨0,bp _,λj _ h=>by omega⟩ ?_;rintro⟨i,hi,hn⟩ ih;dsimp only at hi hn ⊢;refine yB (i<q.length) (i=q.length) ?_ ?_<;>intro hi
 ·refine xS ?_;refine gZ a bw λbl zX=>?_;subst zX;refine eA U U U U U hi (xS ?_);refine tg (cC:=bY) (l:=q) (v:=bn q[i].1.name) i 0 U U U U (λ_=>rfl) (bT _) hi U (xS ?_);by_cases he:q[i].1.name=n
  ·refine bD 18 aP U Ws (xS ?_);exact cT hb (.tmps U) ⟨by rw[Xo (i:=i) bQ bQ λj hj UO=>by grind];rfl,U⟩
  ·refine bD 18 aQ U Ws (xS ?_);exact X.W (ih ⟨i+1,by omega,λj hj UO=>by
    grind⟩ bQ)
 ·subst hi;refine xS ?_;exact cT hb (.tmps U) ⟨by rw[Xp λj hj=>by grind];rfl,U⟩
abbrev zU(q:Y (WB ca))(n:Bs):Y (WB ca):=q.filter λy=> !decide (y.1.name=n)
theorem BN:(zU q n).map (·.1)=(q.map (·.1)).filter λy=> !decide (y.name=n):=by
 rw[List.filter_map];rfl
theorem HV(hq:q.length<=200000000000):TR be GG 41 #[.slice a q.length c,bn n] [dp (cy bY) 2 a q] (dC λv C=>∃a' c',v=.slice a' (zU q n).length c'/\C=[own 70 2 a' (zU q n).length c' ((zU q n).flatMap bY)]):=by
 refine bZ U λb O hb hG=>xS ?_;refine X.dE (fh 70 2 _) ?_;refine fR [0,1] [0] (ι:={z:ab×ah aX×ab // z.1<=q.length}) (λz q_=>(5,.slice z.1.2.1 (zU (q.take z.1.1) n).length z.1.2.2)::(6,bR z.1.1)::q_) (λz q_=>own 70 2 z.1.2.1 (zU (q.take z.1.1) n).length z.1.2.2 ((zU (q.take z.1.1) n).flatMap bY)::q_) (λz=>q.length - z.1.1) ⟨(0,aO,0),bp _⟩ ?_;rintro⟨⟨i,a5,c5⟩,hi⟩ ih;dsimp only at hi ⊢;have hl:(zU (q.take i) n).length<=q.length:=bQ;refine yB (i<q.length) (i=q.length) ?_ ?_<;>intro hi
 ·have kl:=s6 (λy:WB ca=> !decide (y.1.name=n)) q i hi;have ih:=λz=>ih ⟨(i+1,z),by omega⟩ bQ;dsimp only[zU]at ih hl ⊢;generalize(q.take i).filter (λy:WB ca=> !decide (y.1.name=n))=r at*;refine xS ?_;refine dJ U U U U U hi U λbl o=>?_;by_cases he:q[i].1.name=n
  ·rw[aj QO]at kl;rw[kl]at ih;generalize q[i]=y at*;obtain⟨⟨nm,dt⟩,ya,yc⟩:=y;refine xS ?_;refine bD 19 aQ U bQ (xS ?_);exact X.W (ih (a5,c5))
  ·rw[ao QO]at kl;rw[kl]at ih;obtain⟨y,hqi⟩:∃y,q[i]=y:=⟨_,U⟩;rw[hqi]at ih he ⊢;obtain⟨⟨nm,dt⟩,ya,yc⟩:=y;refine xS ?_;refine bD 19 aP U bQ (xS ?_);exact bQ5
 ·subst hi;rw[bV];refine xS ?_;exact cT hb (.tmps U) ⟨_,_,U,U⟩
theorem LV(data:Bs)(da:ah aX)(dc:ab)(hq:q.length<=200000000000)(hd:data.length<=1000000000):TR be GG 40 #[.slice a q.length c,bn n,.slice da data.length dc] [dp (cy bY) 2 a q,eQ ca.data q,dp RB 1 da data] (dC λv C=>∃a' c' z,v=.slice a' (zU q n++[((⟨n,data⟩,z):WB ca)]).length c'/\C=[dp (cy bY) 2 a' (zU q n++[(⟨n,data⟩,z)]),eQ ca.data (zU q n++[(⟨n,data⟩,z)])]):=by
 refine jy U λb O hb hG=>xS ?_;refine X.dE (fh 70 2 _) ?_;refine fR [0,1,2] [0] (ι:={z:ab×ah aX×ab // z.1<=q.length}) (λz q_=>(7,.slice z.1.2.1 (zU (q.take z.1.1) n).length z.1.2.2)::(8,bR z.1.1)::q_) (λz q_=>own 70 2 z.1.2.1 (zU (q.take z.1.1) n).length z.1.2.2 ((zU (q.take z.1.1) n).flatMap bY)::q_) (λz=>q.length - z.1.1) ⟨(0,aO,0),bp _⟩ ?_;rintro⟨⟨i,a5,c5⟩,hi⟩ ih;dsimp only at hi ⊢;have hl:(zU (q.take i) n).length<=q.length:=bQ;refine yB (i<q.length) (i=q.length) ?_ ?_<;>intro hi
 ·have kl:=s6 (λy:WB ca=> !decide (y.1.name=n)) q i hi;have ih:=λz=>ih ⟨(i+1,z),by omega⟩ bQ;dsimp only[zU]at ih hl ⊢;generalize(q.take i).filter (λy:WB ca=> !decide (y.1.name=n))=r at*;refine xS ?_;refine dJ U U U U U hi U λbl o=>?_;by_cases he:q[i].1.name=n
  ·rw[aj QO]at kl;rw[kl]at ih;generalize q[i]=y at*;obtain⟨⟨nm,dt⟩,ya,yc⟩:=y;refine xS ?_;refine bD 22 aQ U bQ (xS ?_);exact X.W (ih (a5,c5))
  ·rw[ao QO]at kl;rw[kl]at ih;obtain⟨y,hqi⟩:∃y,q[i]=y:=⟨_,U⟩;rw[hqi]at ih he ⊢;obtain⟨⟨nm,dt⟩,ya,yc⟩:=y;refine xS ?_;refine bD 22 aP U bQ (xS ?_);exact bQ5
 ·subst hi;clear ih;rw[bV]at hl ⊢;refine xS ?_;refine X.dE (fh 5 1 _) ?_;refine Kp (cC:=λx:au=>[gT x]) U U U U U U (λ_=>rfl) (λ_=>rfl) U bw λa2 c2=>?_;rw[bT,bk,<-lP];refine nX a2 λh1 h2=>?_;refine jz a2 (l:=data) U λ_=>?_;refine xZ ?_;intro b37;refine fH (((⟨n,data⟩,a2,c2):WB ca)) U U U U bw U cE cE cE cE cE bw λa9 c9=>xS ?_;refine dR a9 bY (zU q n++[((⟨n,data⟩,a2,c2):WB ca)]) U U (λ_=>rfl) λ_=>?_;refine Mr ca.data ⟨n,data⟩ a2 c2 h2 h1 ?_;refine qW (data:=ca.data) q (zU q n) (λx hx=>(eM.1 hx).1) ?_;refine Ak (data:=ca.data) (zU q n) [((⟨n,data⟩,a2,c2):WB ca)] ?_;exact cT hb (.tmps U) ⟨a9,c9,(a2,c2),U,U⟩
theorem LW:∀(r:Y ca) (l:Y (Bs×cN)),(l.map (·.1)++r.map (·.name)).Nodup->laid r l=aN (l++r.map λx=>(x.name,⟨x.data,x.data.length⟩))
 |[],l,_=>by simp[laid]
 |x::r,l,h=>by
  have h1:x.name∉l.map (·.1):=λhm=>by
   rw[fN]at h;exact h.2.2 _ hm _ dW U
  rw[laid,aj h1,LW r _ Au];simp
theorem Xq{cap:ae}{m:Y ca}(hp:l.Perm m)(hn:(l.map (·.name)).Nodup):
 (∃e,mh cap l=(aO,e)/\mh cap m=(aO,e))\/∃s t,mh cap l=(aN s,0)/\mh cap m=(aN t,0)/\s.eqv t:=by
 have h1:=LW l [] (by simpa using hn)
 have h2:=LW m [] (by simpa using(hp.map ca.name).nodup_iff.1 hn)
 have hq:=hp.map λx:ca=>(x.name,(⟨x.data,x.data.length⟩:cN))
 have ha:l.any (λx=> !eO x.name)=m.any (λx=> !eO x.name):=hp.any_eq
 unfold mh
 rw[h1,h2,hp.length_eq,ha]
 dsimp only
 rw[bk,bk,ue hq]
 split
 ·grind
 ·split
  ·grind
  ·exact .inr ⟨_,_,U,U,⟨U,U,U,U,U,U,hq⟩⟩
theorem Xr(f:ca):vM (x::r) f=if x.name=f.name then f::r else x::vM r f:=by
 grind [vM]
theorem Xs:Ix (x::r) n=if x.name=n then r else x::Ix r n:=by
 grind [Ix]
abbrev fwo(l:Y ca)(n:Bs):Y ca:=l.filter λy=> !decide (y.name=n)
theorem Py{n:Bs}(h:n∉l.map (·.name)):fwo l n=l:=
 by simp_all
theorem yv:∀(l:Y ca) (f:ca),(l.map (·.name)).Nodup->(vM l f).Perm (fwo l f.name++[f])
 |[],f,_=>.refl _
 |x::r,f,h=>by
  rw[bN,gy]at h;rw[Xr];by_cases e:x.name=f.name
  ·rw[ao e,fwo,List.filter_cons_of_neg aR2];show(f::r).Perm (fwo r f.name++[f]);rw[Py (by rw[<-e];exact h.1)];exact cH (l₁:=[f])
  ·rw[aj e,fwo,List.filter_cons_of_pos aR2];exact(yv r f h.2).cons x
theorem LX:∀(l:Y ca) (n:Bs),(l.map (·.name)).Nodup->Ix l n=fwo l n
 |[],n,_=>rfl
 |x::r,n,h=>by
  rw[bN,gy]at h;rw[Xs];by_cases e:x.name=n
  ·rw[ao e,fwo,List.filter_cons_of_neg aR2];exact(Py (by rw[<-e];exact h.1)).symm
  ·rw[aj e,fwo,List.filter_cons_of_pos aR2,LX r n h.2]
theorem at3(h:(l.map (·.name)).Nodup){f:ca}(hf:f∈l):qG l f.name=aN f:=by
 induction l<;>grind [qG]
theorem SG(h:(l.map (·.name)).Nodup):(wY l).Perm l:=by
 unfold wY;refine((jh _).map _).trans ?_;rw[dK];have e:l.map ((λn=>(qG l n).getD ⟨n,[]⟩)∘λf:ca=>f.name)=l:=by
  conv=>rhs;rw[<-List.map_id l]
  grind [cY,at3]
 rw[e]
theorem UB(l:Y ca)(n:Bs):(HU l n= -1/\qG l n=aO)\/∃i,∃hi:i<l.length,HU l n=i/\l[i].name=n/\qG l n=aN l[i]/\∀f:ca,f.name=n->vM l f=l.set i f:=by
 unfold HU qG;cases h:l.findIdx? (λy:ca=>decide (y.name=n))with
 |none=>
  grind
 |some i=>
  obtain⟨hi,h1,h2⟩:=cA.1 h
  grind [List.find?_eq_some_iff_getElem,vM]
def bQ6(p q:ah cd×ae):Prop:=(∃e,p=(aO,e)/\q=(aO,e)/\0<e/\e<=200)\/∃s t,p=(aN s,0)/\q=(aN t,0)/\s.eqv t
theorem yw(m:Dm)(d:cd)(L:Y ca)(h0:m.ref ((qG d.all m.name).map (·.data))=0)(hp:L.Perm (m.files d.all (((qG d.all m.name).map (·.data)).getD [])))(hn:(L.map (·.name)).Nodup):bQ6 (mh d.cap L) (m.do d):=by
 have hs:=hp.trans (SG ((hp.map ca.name).nodup_iff.1 hn)).symm;have h1:=Xq (cap:=d.cap) hs hn;unfold Dm.do;rw[aj (by rw[h0];simp)];rcases h1 with⟨e,h2,h3⟩|h2
 ·refine .inl ⟨e,h2,h3,?_⟩
  grind [zO]
 ·exact .inr h2
theorem J'(n:Bs):∀l:Y ca,uo n l=match qG l n with|none=>eH 71|some f=>[61,32]++fw f.data
 |[]=>rfl
 |x::r=>by
  rw[uo]
  unfold qG
  by_cases e:x.name=n
  ·grind
  ·rw[aj e,List.find?_cons_of_neg bQ];exact J' n r
theorem aR3(i:ab)(hi:i<q.length)(y:WB ca)(h:bY y=bY q[i]):(q.set i y).flatMap bY=q.flatMap bY:=by
 grind [List.set_eq_take_append_cons_drop,dV,bP]
theorem vj{m:Dm}{d:cd}(e:ae)(he:e≠0)(h:m.ref ((qG d.all m.name).map (·.data))=e):m.do d=(aO,e):=by
 grind [Dm.do]
structure DmR(d:cd)(ln:Bs)(e:ae)(q:Y (WB ca))(m:Dm):Prop where
 hl:nx ln (.dm m)
 len:ln.length<=8000
 he:(0<e/\e<=200/\m.do d=(aO,e))\/(e=0/\bQ6 (mh d.cap (q.map (·.1))) (m.do d))
 ql:q.length<=200000000000
 qd:∀y∈q,y.1.data.length<=1000000000
section
variable {B:ab}{o:Op}{n:ab}{y:LB}{A:Y jY}
theorem SH(ho:o.ok)(hn:n<=997290027)(hy:y.ok A)(hs:y.s.length<=14100):TR be GG 13 #[bu B,o.val,bR n] [IE B y] (dC (Left B y A 14000)):=by
 refine jy U λb O hb hG=>?_
 obtain⟨d0,d1⟩: -9223372036854775808<=o.kind.tdiv 4/\o.kind.tdiv 4<=9223372036854775807:=yu ho.k0 ho.k1 4 eK
 obtain⟨f0,f1⟩: -9223372036854775808<=o.kind.tdiv 24/\o.kind.tdiv 24<=9223372036854775807:=bQ
 have I7:=kI (o.kind.tdiv 4) 6 d0 d1 eK
 have PF:=qi (o.kind.tdiv 4) (show 0<6 by decide)
 generalize pick (o.kind.tdiv 4) 6=k at*
 have qM:=ho.m1
 have D7:=ho.n1
 have SF:=hy.C2 bw
 have nC:=(hy.pre (c:=.files) BK.may bQ).2.1
 have hok62:(o.b.take 62).length<=62:=bQ
 have hot:=xi o.b 62
 generalize o.b.take 62=other at*
 refine vZ B y λp=>?_
 show X _ _ _ _ _ _ [bx B 34 [bu p.1,uu y.x p,bn y.s,bn y.w],cJ p.1 y.x.ej,dZ (vT y.x p)] _
 refine qV p.1 λeI=>?_
 refine xP ?_
 intro b4
 refine cP (kj GG p.1 y.x.ej bw) ?_
 rintro _ _ ⟨af,cf,rfl,rfl⟩
 dsimp only[bh,bk,bj]
 have sF:=mH y.x.ej
 have vP:=λf hf=>(@qg y.x.ej eI f hf)
 refine Kv af cf (l:=y.x.ej.all) λq hq=>?_
 rw[<-hq,bF]at sF
 rw[<-hq]at vP
 rw[<-hq,bF]
 have hn62:(o.a.take 62).length<=1000:=bQ
 refine xS ?_
 refine jJ hG (xi o.a 62) U U U ?_
 generalize o.a.take 62=nm0 at*
 refine xS ?_
 refine jJ hG hot U U U ?_
 refine X.go 3 U U ?_
 refine tq [0,2,4,6,8] [] (ι:={nm:Bs // nm.length<=1000}) (λz q_=>(7,bn z.1)::q_) (λz q_=>q_) ?fin ?main
 case main=>
  intro KK dF;refine xS ?_;refine X.quo U U U U eK ?_;rw[wrap_i64 _ f0 f1];refine jJ hG (kI (o.kind.tdiv 24) 4 f0 f1 eK) U U U ?_;generalize pick (o.kind.tdiv 24) 4=q1 at*;refine xT 35 ?_ ?_<;>intro h1
  ·refine xS ?_;by_cases It:0<q.length
   ·refine bD 39 aP U fD (xS ?_);have tJ:=qi (o.n:ae) It;refine jJ hG (kI (o.n:ae) q.length bw bw It) U U U ?_;generalize pick (o.n:ae) q.length=j at*;refine xS ?_;refine gZ af It λbl zX=>?_;subst zX;refine eA U U U U U tJ (xS ?_);refine tg (cC:=bY) (l:=q) (v:=bn q[j].1.name) j 0 U U U U (λ_=>rfl) (bT _) tJ U (xS ?_);exact X.W (dF ⟨q[j].1.name,kC (vP _ (cu.2 ⟨_,bE tJ,U⟩)).1⟩)
   ·refine bD 39 aQ U (aM bw) (xS ?_);exact X.W (dF ⟨nm0,hn62⟩)
  ·refine xS ?_;exact X.W (dF ⟨nm0,hn62⟩)
 case fin=>
 rintro⟨nm,Xz⟩
 dsimp only
 have j7:=JZ eI
 have KX:q.length<=100000000000:=bw
 have EI:∀y∈q,y.1.data.length<=1000000000:=bQ
 rw[<-hq]at j7
 refine xH (J9 af cf q nm bw) ?_
 have hor:(HU (q.map (·.1)) nm= -1/\qG y.x.ej.all nm=aO)\/∃i,∃hi:i<q.length,HU (q.map (·.1)) nm=i/\q[i].1.name=nm/\qG y.x.ej.all nm=aN q[i].1/\∀f:ca,f.name=nm->vM y.x.ej.all f=(q.map (·.1)).set i f:=by
  grind [UB]
 generalize HU (q.map (·.1)) nm=kk at*
 refine xS ?_
 have hww:=vi nm bw o.m bw bw
 refine jJ hG hww U U U ?_
 have HY:=oF nm o.m
 refine xS ?_
 refine tq [0,2,4,6,7,8,9,10] [] (ι:=aA) (λ_ q_=>(11,.int .i64 (if kk<0 then 71 else 0))::q_) (λ_ q_=>q_) ?y7 ?a'3
 case a'3=>
  intro KK dF;have dF:=dF ();by_cases Ze:kk<0
  ·rw[ao Ze]at dF;refine bD 57 aP U bQ (xS ?_);exact X.W dF
  ·rw[aj Ze]at dF;refine bD 57 aQ U bQ (xS ?_);exact X.W dF
 case y7=>
 rintro⟨⟩
 refine xS ?_
 refine X.quo U U U U eK ?_
 rw[wrap_i64 _ d0 d1]
 refine xJ I7 ?_
 refine iK (ι:={z:Bs×ae×(ah aX×ab)×Y (WB ca)×Dm // DmR y.x.ej z.1 z.2.1 z.2.2.2.1 z.2.2.2.2}) (λz=>([(0,bu B),(6,.slice z.1.2.2.1.1 z.1.2.2.2.1.length z.1.2.2.1.2),(7,bn nm),(10,bn (ep nm o.m)),(11,.int .i64 z.1.2.1),(12,bn z.1.1)],[dp (cy bY) 2 z.1.2.2.1.1 z.1.2.2.2.1,eQ ca.data z.1.2.2.2.1,bx B 34 [bu p.1,uu y.x p,bn y.s,bn y.w],cJ p.1 y.x.ej,dZ (vT y.x p)])) ?aE8 ?main3
 case main3=>
  intro KK dF;by_cases h0:k=0
  ·subst h0;refine bD 83 aP U U (xS ?_);have ht4:(o.b.take 400).length<=400:=bQ;have hct:=xi o.b 400;generalize o.b.take 400=t at*;have pZ:=bx8 nm bw o.m t bw o.n;have hwt:=vi t bw o.n bw bw;have hwtl:=oF t o.n;rw[show([108,97,121]++32::(ep nm o.m++32::ep t o.n):Bs)=[108,97,121,32]++ep nm o.m++[32]++ep t o.n from by simp]at pZ;generalize ep t o.n=wt at*;generalize ep nm o.m=wk at*;refine fG (sG [0,1,2,3,4,6,7,9]) [bx b4 39 o.cs] U ?_;apply dB [0,1,2,3,4,6,7] U U U
   ·exact LR
   ·rfl
   ·rfl
   refine xJ hct ?_;refine xJ hwt ?_;refine xJ hct ?_;refine Kn U U U λat_ ct hct=>?_;refine dR af bY q U U (λ_=>rfl) λ_=>?_;refine lS q (xS ?_);refine cP (LV af cf q nm t (aN at_) ct bw bw) ?_;rintro _ _ ⟨a8,c8,z,rfl,rfl⟩;refine xD ?_;refine X.W (dF ⟨(_,0,(a8,c8),zU q nm++[((⟨nm,t⟩,z):WB ca)],.lay nm t),⟨pZ,by simp;omega,.inr ⟨U,yw (.lay nm t) _ _ U ?_ ?_⟩,by grind,λy hy=>?_⟩⟩)
   ·rw[dx,BN,hq];exact(yv _ ⟨nm,t⟩ bQ).symm
   all_goals grind
  refine bD 83 aQ U fD (xS ?_);by_cases h1:k=1
  ·subst h1;refine bD 102 aP U U (xS ?_);have hpx:=qi (o.m:ae) (show 0<255 by decide);refine jJ hG (kI (o.m:ae) 255 bw bw eK) U U U ?_;generalize pick (o.m:ae) 255=x0 at*;refine xS ?_;rw[show(1:ae)+(x0:ae)=((1+x0:ab):ae)from by omega];obtain⟨x,hx⟩:∃x,x=1+x0:=⟨_,U⟩;rw[<-hx];have am6:x<=255:=bw;have pZ:=aQ0 nm bw o.m n bw (x / 16) (x%16) bw bw;rw[show 16*(x / 16)+x%16=x from by omega]at pZ;have hl9:=iW n bw;have hnn:=nE n bw;rw[show([102,108,105,112]++32::(ep nm o.m++32::(bB n++32::[ji (x / 16),ji (x%16)])):Bs)=[102,108,105,112,32]++ep nm o.m++[32]++bB n++[32]++[ji (x / 16)]++[ji (x%16)]from by simp]at pZ;have Qt:(([48,49,50,51,52,53,54,55,56,57,97,98,99,100,101,102]:Bs).drop (x / 16)).take (x / 16+1 - x / 16)=[ji (x / 16)]:=C3 (x / 16) bw;have Tw:(([48,49,50,51,52,53,54,55,56,57,97,98,99,100,101,102]:Bs).drop (x%16)).take (x%16+1 - x%16)=[ji (x%16)]:=C3 (x%16) bw;generalize bB n=dn at*;generalize ep nm o.m=wk at*;generalize ji (x / 16)=g1 at*;generalize ji (x%16)=g2 at*;refine fG (sG [0,1,2,3,5,6,7,8,9,10,11,12,13,14,15,16,17,18,19,20]) [bx b4 39 o.cs] U ?_;apply dB [0,1,2,3,7,8,9,10,11,12,14,15,16,17,18,19] U U U
   ·intro pp qb;refine xS ?_;refine X.quo U U U U eK ?_;rw[show eu.wrap ((x:ae).tdiv 16)=((x / 16:ab):ae)from vg x 16 bw];refine xS ?_;refine X.quo U U U U eK ?_;rw[show eu.wrap ((x:ae).tdiv 16)=((x / 16:ab):ae)from vg x 16 bw];refine xS ?_;refine lO (l:=x / 16) (h:=x / 16+1) U U U (Bd.at U U) (Bd.at U bw) bw (by show _<=16;omega) (xS ?_);refine X.rem U U U U eK ?_;rw[show(x:ae).tmod 16=((x%16:ab):ae)from rfl];refine xS ?_;refine X.rem U U U U eK ?_;rw[show(x:ae).tmod 16=((x%16:ab):ae)from rfl];refine xS ?_;refine lO (l:=x%16) (h:=x%16+1) U U U (Bd.at U U) (Bd.at U bw) bw (by show _<=16;omega) (xS ?_);exact qb
   ·rfl
   ·rfl
   rw[Qt,Tw];refine xJ hnn ?_;rcases hor with⟨rfl,hg⟩|⟨i,hi,rfl,gj,hg,yF⟩
   ·refine xS ?_;refine dR af bY q U U (λ_=>rfl) λ_=>?_;refine lS q ?_;exact X.W (dF ⟨(_,71,(af,cf),q,.flip nm n x),⟨pZ,by simp;omega,.inl ⟨by grind,by grind,vj 71 eK Xt⟩,bo KX eK,EI⟩⟩)
   ·rw[aj bw];have Ci:=EI _ (bE hi);refine xS ?_;refine bD 131 aP U dW (xS ?_);refine gZ af bw λbl zX=>?_;subst zX;refine eA (j:=i) U U U U U hi (xS ?_);refine tg (cC:=bY) (l:=q) (v:=.slice q[i].2.1 q[i].1.data.length q[i].2.2) i 1 U U U U (λ_=>rfl) dW hi U (xS ?_);by_cases hc:q[i].1.data.length<=n
    ·refine bD 140 aP U (aK bw) (xS ?_);refine dR (aN ⟨bl,0,aO⟩) bY q U U (λ_=>rfl) λ_=>?_;refine lS q ?_;exact X.W (dF ⟨(_,70,(aN ⟨bl,0,aO⟩,cf),q,.flip nm n x),⟨pZ,by simp;omega,.inl ⟨by grind,by grind,vj 70 eK Xt⟩,bo KX eK,EI⟩⟩)
    ·refine bD 140 aQ U (aM bw) ?_
     have hk:n<q[i].1.data.length:=bw
     refine xS ?_
     refine bD 142 aP U dW (xS ?_)
     refine eA (j:=i) U U U U U hi (xS ?_)
     refine tg (cC:=bY) (l:=q) (v:=.slice q[i].2.1 q[i].1.data.length q[i].2.2) i 1 U U U U (λ_=>rfl) dW hi U ?_
     refine X6 kL q i hi ?_
     have ZM:bY ((⟨nm,lQ q[i].1.data n x⟩,q[i].2):WB ca)=bY q[i]:=by
      grind [lQ]
     have hfe:=aR3 q i hi _ ZM
     have hfp:=yF ⟨nm,lQ q[i].1.data n x⟩ U
     have hmp:=fL (f:=λy:WB ca=>y.1) (l:=q) (i:=i) (a:=((⟨nm,lQ q[i].1.data n x⟩,q[i].2):WB ca))
     generalize hqi:q[i]=z at*
     rw[show kL z=own 5 1 z.2.1 z.1.data.length z.2.2 (z.1.data.map gT)from rfl]
     refine gZ z.2.1 bw λg hgz=>?_
     have hzv:z.2.1=aN ⟨g,0,aO⟩:=hgz
     rw[hzv]
     refine xS ?_
     refine eA (j:=n) U U U U U hk (xS ?_)
     refine X.jK (v:=gT z.1.data[n]) U U U (by simp[hk]) (xS ?_)
     rw[bh8 x am6]
     refine xS ?_
     refine eA (j:=n) U U U U U hk (xS ?_)
     rw[YL]
     refine Mn U U U U U U fD ?_
     have hxa:=Ud z.1.data n x hk
     rw[hxa]
     have hxl:(lQ z.1.data n x).length=z.1.data.length:=bQ
     have hda:own 5 1 (aN ⟨g,0,aO⟩) z.1.data.length z.2.2 ((lQ z.1.data n x).map gT)=kL ((⟨nm,lQ z.1.data n x⟩,z.2):WB ca):=by grind [kL]
     rw[hda]
     refine UH kL q i hi ((⟨nm,lQ z.1.data n x⟩,z.2):WB ca) ?_
     rw[<-hfe]
     refine lS (q.set i ((⟨nm,lQ z.1.data n x⟩,z.2):WB ca)) ?_
     refine dR (aN ⟨bl,0,aO⟩) bY (q.set i ((⟨nm,lQ z.1.data n x⟩,z.2):WB ca)) U (fJ ..).symm (λ_=>rfl) λ_=>xS ?_
     rw[<-@fJ _ q i ((⟨nm,lQ z.1.data n x⟩,z.2):WB ca)]
     refine X.W (dF ⟨(_,0,(aN ⟨bl,0,aO⟩,cf),q.set i ((⟨nm,lQ z.1.data n x⟩,z.2):WB ca),.flip nm n x),⟨pZ,by simp;omega,.inr ⟨U,yw (.flip nm n x) _ _ ?_ ?_ ?_⟩,by grind,λy hy=>?_⟩⟩)
     ·grind [Dm.ref]
     ·show List.Perm _ (vM y.x.ej.all ⟨nm,lQ (((qG y.x.ej.all nm).map ca.data).getD []) n x⟩)
      grind
     all_goals grind [yv]
  refine bD 102 aQ U fD (xS ?_);by_cases h2:k=2
  ·subst h2;refine bD 155 aP U U (xS ?_);have pZ:=bx9 nm bw o.m n bw;have hl9:=iW n bw;have hnn:=nE n bw;rw[show([99,117,116]++32::(ep nm o.m++32::bB n):Bs)=[99,117,116,32]++ep nm o.m++[32]++bB n from by simp]at pZ;generalize bB n=dn at*;generalize ep nm o.m=wk at*;refine xJ hnn ?_;rcases hor with⟨rfl,hg⟩|⟨i,hi,rfl,gj,hg,yF⟩
   ·refine xS ?_;refine dR af bY q U U (λ_=>rfl) λ_=>?_;refine lS q ?_;exact X.W (dF ⟨(_,71,(af,cf),q,.cut nm n),⟨pZ,by simp;omega,.inl ⟨by grind,by grind,vj 71 eK Xt⟩,bo KX eK,EI⟩⟩)
   ·rw[aj bw];have Ci:=EI _ (bE hi);refine xS ?_;refine bD 164 aP U dW (xS ?_);refine gZ af bw λbl zX=>?_;subst zX;refine eA (j:=i) U U U U U hi (xS ?_);refine tg (cC:=bY) (l:=q) (v:=.slice q[i].2.1 q[i].1.data.length q[i].2.2) i 1 U U U U (λ_=>rfl) dW hi U (xS ?_);by_cases hc:q[i].1.data.length<n
    ·refine bD 174 aP U (aK bw) (xS ?_);refine dR (aN ⟨bl,0,aO⟩) bY q U U (λ_=>rfl) λ_=>?_;refine lS q ?_;exact X.W (dF ⟨(_,70,(aN ⟨bl,0,aO⟩,cf),q,.cut nm n),⟨pZ,by simp;omega,.inl ⟨by grind,by grind,vj 70 eK Xt⟩,bo KX eK,EI⟩⟩)
    ·refine bD 174 aQ U (aM bw) ?_
     have hk:n<=q[i].1.data.length:=bw
     refine xS ?_
     refine bD 176 aP U dW ?_
     refine lS q ?_
     refine nH (data:=ca.data) q q[i] (bE hi) λjT mX=>?_
     have hfp:=yF ⟨nm,q[i].1.data.take n⟩ U
     have hmp:=fL (f:=λy:WB ca=>y.1) (l:=q) (i:=i) (a:=((⟨nm,q[i].1.data.take n⟩,q[i].2):WB ca))
     have PF:(q[i].1.data.take n).length=n:=bQ
     refine xS ?_
     refine eA (j:=i) U U U U U hi (xS ?_)
     refine tg (cC:=bY) (l:=q) (v:=.slice q[i].2.1 q[i].1.data.length q[i].2.2) i 1 U U U U (λ_=>rfl) dW hi U (xS ?_)
     refine aS2 (h:=n) U U U (Bd.at U U) hk jT (xS ?_)
     refine eA (j:=i) U U U U U hi (xS ?_)
     refine E3 (cC:=bY) (l:=q) i 1 ((⟨nm,q[i].1.data.take n⟩,q[i].2):WB ca) (v:=.slice q[i].2.1 n q[i].2.2) (λh=>by grind) U U U U (λ_=>rfl) bw hi eK U U ?_
     refine Db ca.data q (q.set i ((⟨nm,q[i].1.data.take n⟩,q[i].2):WB ca)) (λx hx=>(List.mem_or_eq_of_mem_set hx).elim (λh=>⟨x,h,x.1.data.length,U,bV.symm⟩) (λh=>by grind)) ?_
     generalize hqi:q[i]=z at*
     refine dR (aN ⟨bl,0,aO⟩) bY (q.set i ((⟨nm,z.1.data.take n⟩,z.2):WB ca)) U (fJ ..).symm (λ_=>rfl) λ_=>xS ?_
     rw[<-@fJ _ q i ((⟨nm,z.1.data.take n⟩,z.2):WB ca)]
     refine X.W (dF ⟨(_,0,(aN ⟨bl,0,aO⟩,cf),q.set i ((⟨nm,z.1.data.take n⟩,z.2):WB ca),.cut nm n),⟨pZ,by simp;omega,.inr ⟨U,yw (.cut nm n) _ _ ?_ ?_ ?_⟩,by grind,λy hy=>?_⟩⟩)
     ·grind [Dm.ref]
     ·show List.Perm _ (vM y.x.ej.all ⟨nm,(((qG y.x.ej.all nm).map ca.data).getD []).take n⟩)
      grind
     all_goals grind [yv]
  refine bD 155 aQ U fD (xS ?_);by_cases h3:k=3
  ·subst h3
   refine bD 188 aP U U (xS ?_)
   have pZ:=aQ1 nm bw o.m
   generalize ep nm o.m=wk at*
   refine dR af bY q U U (λ_=>rfl) λ_=>?_
   refine lS q (xS ?_)
   refine cP (HV af cf q nm bw) ?_
   rintro _ _ ⟨a8,c8,rfl,rfl⟩
   refine xD ?_
   refine dR a8 bY (zU q nm) U U (λ_=>rfl) λ_=>?_
   refine qW (data:=ca.data) q (zU q nm) (λx hx=>(eM.1 hx).1) ?_
   refine X.W (dF ⟨([108,111,115,101]++32::wk,(if kk<0 then 71 else 0),(a8,c8),zU q nm,.Iy nm),⟨pZ,by simp;omega,?_,bo (eF _ _) bw,λy hy=>EI y (eM.1 hy).1⟩⟩)
   rcases hor with⟨rfl,hg⟩|⟨i,hi,rfl,gj,hg,yF⟩
   ·grind [vj,Dm.ref]
   ·refine .inr ⟨(aj bw:(if(i:ae)<0 then(71:ae)else 0)=0),yw (.Iy nm) _ _ ?_ ?_ ?_⟩
    ·grind [Dm.ref]
    ·show List.Perm _ (Ix y.x.ej.all nm);rw[BN,hq,LX _ _ bQ]
    grind
  refine bD 188 aQ U fD (xS ?_);by_cases h4:k=4
  ·subst h4;refine bD 195 aP U U (xS ?_);have pZ:=aQ2 nm bw o.m other bw o.n;have hwt:=vi other bw o.n bw bw;have hwtl:=oF other o.n;rw[show([99,111,112,121]++32::(ep nm o.m++32::ep other o.n):Bs)=[99,111,112,121,32]++ep nm o.m++[32]++ep other o.n from by simp]at pZ;generalize ep other o.n=wt at*;generalize ep nm o.m=wk at*;refine xJ hwt ?_;rcases hor with⟨rfl,hg⟩|⟨i,hi,rfl,gj,hg,yF⟩
   ·refine xS ?_;refine dR af bY q U U (λ_=>rfl) λ_=>?_;refine lS q ?_;exact X.W (dF ⟨(_,71,(af,cf),q,.copy nm other),⟨pZ,by simp;omega,.inl ⟨by grind,by grind,vj 71 eK Xt⟩,bo KX eK,EI⟩⟩)
   ·rw[aj bw]
    have Ci:=EI _ (bE hi)
    refine bD 206 aP U dW ?_
    refine dR af bY q U U (λ_=>rfl) λ_=>?_
    refine lS q ?_
    refine nH (data:=ca.data) q q[i] (bE hi) λjT mX=>xS ?_
    refine dJ U U U U U hi U λbl ol=>?_
    generalize hqi:q[i]=z at*
    obtain⟨⟨zn,zd⟩,za,zc⟩:=z
    dsimp only at Ci gj jT mX ⊢
    refine xS ?_
    refine qP U U U 1 U U (xS ?_)
    refine cP (LV af cf q other zd za zc bw bw) ?_
    rintro _ _ ⟨a8,c8,zz,rfl,rfl⟩
    refine xD ?_
    refine X.W (dF ⟨(_,0,(a8,c8),zU q other++[((⟨other,zd⟩,zz):WB ca)],.copy nm other),⟨pZ,by simp;omega,.inr ⟨U,yw (.copy nm other) _ _ ?_ ?_ ?_⟩,?_,λy hy=>?_⟩⟩)
    ·grind [Dm.ref]
    ·show List.Perm _ (vM y.x.ej.all ⟨other,((qG y.x.ej.all nm).map ca.data).getD []⟩)
     rw[dx,BN,hq,hg]
     grind [yv]
    all_goals grind
  refine bD 195 aQ U fD (xS ?_);have pZ:=aQ3 nm bw o.m other bw o.n;have hwt:=vi other bw o.n bw bw;have hwtl:=oF other o.n;rw[show([109,111,118,101]++32::(ep nm o.m++32::ep other o.n):Bs)=[109,111,118,101,32]++ep nm o.m++[32]++ep other o.n from by simp]at pZ;generalize ep other o.n=wt at*;generalize ep nm o.m=wk at*;refine xJ hwt ?_;rcases hor with⟨rfl,hg⟩|⟨i,hi,rfl,gj,hg,yF⟩
  ·refine xS ?_;refine dR af bY q U U (λ_=>rfl) λ_=>?_;refine lS q ?_;exact X.W (dF ⟨(_,71,(af,cf),q,.move nm other),⟨pZ,by simp;omega,.inl ⟨by grind,by grind,vj 71 eK Xt⟩,bo KX eK,EI⟩⟩)
  ·rw[aj bw]
   have Ci:=EI _ (bE hi)
   refine bD 71 aP U dW ?_
   refine dR af bY q U U (λ_=>rfl) λ_=>?_
   refine lS q ?_
   refine nH (data:=ca.data) q q[i] (bE hi) λjT mX=>xS ?_
   refine dJ U U U U U hi U λbl ol=>?_
   generalize hqi:q[i]=z at*
   obtain⟨⟨zn,zd⟩,za,zc⟩:=z
   dsimp only at Ci gj jT mX ⊢
   refine xS ?_
   refine qP U U U 1 U U (xS ?_)
   refine cP (HV af cf q nm bw) ?_
   rintro _ _ ⟨a7,c7,rfl,rfl⟩
   refine xD ?_
   refine dR a7 bY (zU q nm) U U (λ_=>rfl) λ_=>?_
   refine qW (data:=ca.data) q (zU q nm) (λx hx=>(eM.1 hx).1) ?_
   have hwl2:(zU q nm).length<=q.length:=eF _ _
   refine cP (LV a7 c7 (zU q nm) other zd za zc bw bw) ?_
   rintro _ _ ⟨a8,c8,zz,rfl,rfl⟩
   refine xD ?_
   refine X.W (dF ⟨(_,0,(a8,c8),zU (zU q nm) other++[((⟨other,zd⟩,zz):WB ca)],.move nm other),⟨pZ,by simp;omega,.inr ⟨U,yw (.move nm other) _ _ ?_ ?_ ?_⟩,?_,λy hy=>?_⟩⟩)
   ·grind [Dm.ref]
   ·show List.Perm _ (vM (Ix y.x.ej.all nm) ⟨other,((qG y.x.ej.all nm).map ca.data).getD []⟩)
    rw[dx,BN,BN,hq,hg,LX _ _ bQ]
    grind [yv]
   all_goals grind
 case aE8=>
 clear hor
 rintro⟨⟨ln,e,⟨a6,c6⟩,q,m⟩,hR⟩
 dsimp only at hR ⊢
 obtain⟨pZ,vF,hRe,KX,EI⟩:=hR
 have qL:y.x.do (.dm m)=y.x.new (m.do y.x.ej):=U
 have he0:0<=e/\e<=200:=bw
 refine xS ?_
 refine iK (ι:={z:(ab×ab)×ae // eH z.2=(y.x.do (.dm m)).2/\0<=z.2/\z.2<=200}) (λz=>([(0,bu B),(7,bn nm),(10,bn (ep nm o.m)),(11,.int .i64 z.1.2),(12,bn ln)],[bx B 34 [bu z.1.1.1,uu (y.x.do (.dm m)).1 z.1.1,bn y.s,bn y.w],cJ z.1.1.1 (y.x.do (.dm m)).1.ej,dZ (vT (y.x.do (.dm m)).1 z.1.1)])) ?fin4 ?main4
 case main4=>
  intro KK dF;rcases hRe with⟨g0,g1,g2⟩|⟨rfl,g2⟩
  ·rw[g2]at qL;have e1:(y.x.do (.dm m))=(y.x,eH e):=qL;refine bD 216 aQ U fD (xS ?_);have dF:=dF ⟨(p,e),by rw[e1],he0⟩;dsimp only at dF;rw[e1]at dF;exact X.W dF
  ·refine bD 216 aP U U  ?_;refine xE (A4 GG p.1 y.x.ej) ?_;refine aR4 a6 (q:=q) ?_;refine cP (x9 GG y.x.ej.cap a6 q.length c6 (q.map (·.1)) (bF _) bw (λx hx=>by
    grind)) ?_
   rcases g2 with⟨e,h1,h2,h3,h4⟩|⟨s,t,h1,h2,h3⟩
   ·rw[h1];rw[h2]at qL;have e1:(y.x.do (.dm m))=(y.x,eH e):=qL;rintro _ _ ⟨rfl,rfl⟩;refine xD ?_;have dF:=dF ⟨(p,e),by rw[e1],by omega,h4⟩;dsimp only at dF;rw[e1]at dF;exact X.W dF
   ·rw[h1];rw[h2]at qL;have e1:(y.x.do (.dm m))=(⟨t,aO⟩,eH 0):=qL;rintro _ _ ⟨D1,rfl,rfl⟩;refine xD ?_;refine bn5 D1 t h3 ?_;refine hU [] ?_;have dF:=dF ⟨((D1,0),0),by rw[e1],by omega,by omega⟩;dsimp only at dF;rw[e1]at dF;dsimp only[uu,vT]at dF;exact X.W dF
 case fin4=>
 clear hRe KX EI sF j7
 rintro⟨⟨p,e⟩,hwe,g0,g1⟩
 dsimp only at hwe g0 g1 ⊢
 have Ia:=fT (e:=e) ⟨g0,by omega⟩
 refine xJ (oE e g0 bw) ?_
 refine xH (lv (y:=y) (d':=(y.x.do (.dm m)).1.ej) (sv:=uu (y.x.do (.dm m)).1 p) (S:=vT (y.x.do (.dm m)).1 p) (l:=ln) (a:=eH e) (c:=.dm m) p hwe.symm U U U bw bw) ?_
 have H3:=hy.zT pZ
 have zp:=lG y ln (.dm m)
 generalize y.zT ln (.dm m)=y1 at*
 clear qL hwe
 have bk1:=H3.C2 bw
 have hfl1:=(H3.pre (c:=.files) BK.may bQ).2.1
 have hrd:=aQ4 nm bw o.m
 have hrb:=J' nm y1.x.ej.all
 rw[show([114,101,97,100]++32::ep nm o.m:Bs)=[114,101,97,100,32]++ep nm o.m from rfl]at hrd
 refine vZ B y1 λp1=>?_
 show X _ _ _ _ _ _ (bx B 34 [bu p1.1,uu y1.x p1,bn y1.s,bn y1.w]::cJ p1.1 y1.x.ej::dZ (vT y1.x p1)::_) _
 refine qV p1.1 λhok1=>?_
 have hal1:=mH y1.x.ej
 refine xS ?_
 refine cP (kj GG p1.1 y1.x.ej bw) ?_
 rintro _ _ ⟨af,cf,rfl,rfl⟩
 dsimp only[bh,bk,bj]
 refine Kv af cf (l:=y1.x.ej.all) λq hq=>?_
 rw[<-hq,bF]at hal1
 rw[<-hq,bF]
 refine xH (J9 af cf q nm bw) ?_
 rw[hq]
 clear hal1 hq
 have hal1:=mH y1.x.ej
 refine xS ?_
 rcases UB y1.x.ej.all nm with⟨h1,h2⟩|⟨i,hi,h1,h2,h3,-⟩
 ·rw[h1];rw[h2]at hrb;refine bD 254 aQ U U (xS ?_);have N2:([114,101,97,100,32]++ep nm o.m:Bs).length<=3100:=fD;generalize([114,101,97,100,32]++ep nm o.m:Bs)=rl at*;refine xE (lv (y:=y1) (d':=y1.x.ej) (sv:=uu y1.x p1) (S:=vT y1.x p1) (l:=rl) (a:=[101,114,114,111,114,32,55,49]) (c:=.read nm) p1 (hrb.trans Xg) U U U fD fD) ?_;exact bk3
 ·rw[h1];refine bD 254 aP U dW (xS ?_);refine cP (kj GG p1.1 y1.x.ej bw) ?_;rintro _ _ ⟨af2,cf2,rfl,rfl⟩;dsimp only[bh,bk,bj];refine Kv af2 cf2 (l:=y1.x.ej.all) λq2 Tc=>?_;have Ds:i<q2.length:=bQ;have hz:(y1.x.ej.all)[i]?=aN q2[i].1:=bQ;rw[<-bX hi,hz]at h3;rw[h3]at hrb;have Tp:=(qg hok1 (by rw[<-Tc];exact cu.2 ⟨_,bE Ds,U⟩:q2[i].1∈y1.x.ej.all)).2.1;rw[<-Tc,bF];refine lS q2 ?_;refine nH (data:=ca.data) q2 q2[i] (bE Ds) λjT mX=>?_;refine dR af2 bY q2 U U (λ_=>rfl) λ_=>xS ?_;refine dJ U U U U U Ds U λbl ol=>?_;generalize q2[i]=z at*;obtain⟨⟨zn,zd⟩,za,zc⟩:=z;dsimp only at Tp hrb jT mX ⊢;refine xS ?_;refine qP U U U 1 U U (xS ?_);have Il:=gA zd;refine xJ (sD zd bw) ?_;have N2:([114,101,97,100,32]++ep nm o.m:Bs).length<=3100:=fD;generalize([114,101,97,100,32]++ep nm o.m:Bs)=rl at*;refine xE (lv (y:=y1) (d':=y1.x.ej) (sv:=uu y1.x p1) (S:=vT y1.x p1) (l:=rl) (a:=[61,32]++fw zd) (c:=.read nm) p1 hrb U U U fD fD) ?_;exact bk3
end
structure SJ where
 kind:ae
 n:ae
 m:ae
 a:Bs
 b:Bs
abbrev SJ.cs(r:SJ):Y aR:=[bR r.kind,bR r.n,bR r.m,bn r.a,bn r.b]
structure SJ.ok(r:SJ):Prop where
 k0: -9223372036854775808<=r.kind
 k1:r.kind<=9223372036854775807
 n0: -9223372036854775808<=r.n
 n1:r.n<=9223372036854775807
 m0: -9223372036854775808<=r.m
 m1:r.m<=9223372036854775807
theorem Pz{o:Op}{n:ab}(ho:o.ok)(hn:n<=997290027)(hy:y.ok A)(hs:y.s.length<=30000):TR be GG 10 #[bu B,o.val,bR n] [IE B y] (dC (Left B y A 100)):=by
 have h:=qi (o.kind.tdiv 4) (show 0<6 by decide)
 grind [Xl,aQ7,aQ8,aQ9]
def lnF:Y Bs:=[[103,101,116,32,97],[112,117,116,32,97,32,49],[100,101,108,32,97],[115,121,110,99],[109,101,114,103,101],[97,108,108],[107,101,121,115],[108,97,115,116],[99,108,111,115,101]]
theorem by1:∀i (h:i<lnF.length),lnF[i].length<=10/\∃c,nx lnF[i] c/\∀x:l9,x.vN=aO->x.do c=(x,w6):=λi h=>by
 have e:∀(x:l9),x.vN=aO->∀f,x.pT f=(x,w6):=by grind [l9.pT]
 match i,h with
 |0,_=>exact⟨bH U,.get [97],as6 [97] eK 0,λx hx=>e x hx _⟩
 |1,_=>exact⟨bH U,.put [97] [49],SD [97] eK 0 [49] eK 0,λx hx=>e x hx _⟩
 |2,_=>exact⟨bH U,.del [[97]],as7 0 [[97]] eK eK eK,λx hx=>e x hx _⟩
 |3,_=>exact⟨bH U,.sync,Uy,λx hx=>e x hx _⟩
 |4,_=>exact⟨bH U,.merge,Ps,λx hx=>e x hx _⟩
 |5,_=>exact⟨bH U,.all,as5,λx hx=>e x hx _⟩
 |6,_=>exact⟨bH U,.keys,Uz,λx hx=>e x hx _⟩
 |7,_=>exact⟨bH U,.last,LQ,λx hx=>e x hx _⟩
 |8,_=>exact⟨bH U,.close,HT,λx hx=>e x hx _⟩
theorem bQ7:mh 4194304 []=(aN ⟨4194304,0,[],0,0,aQ,aQ⟩,0):=rfl
theorem at4(ops:Y SJ)(ae9:∀r∈ops,r.ok)(hl:ops.length<=9223372036854775807):TR be GG 4 #[.slice a ops.length c] [dp (cy SJ.cs) 5 a ops] (dX (.bool aP)):=by
 refine TR.go (us:=[_]) (bH U) λb O hb hG=>?_;refine xS ?_;refine jJ hG ar8 U U U ?_;refine xS ?_;refine Kg AP 2 ?_;refine cM hG (x9 GG 4194304 aO 0 0 [] U eK dW) U U U bS.es ?_;rw[bQ7];rintro _ _ ⟨D1,rfl,rfl⟩;dsimp only[bh,bk,bj];refine xS ?_;refine X.box U U U U λB=>?_;refine xS ?_;refine me U U cE cE cE cE cE cE λb32=>?_;refine EW b32 1 9 U U ?_;refine dR (aN ⟨b32,0,aO⟩) Ee lnF U U (λ_=>rfl) λ_=>?_;refine hU [] ?_;refine X.dE (Hs':=lbC B ⟨qU,[],[]⟩ (D1,0)++[dp (cy Ee) 1 (aN ⟨b32,0,aO⟩) lnF,dp (cy SJ.cs) 5 a ops]) (show bS _ [bx B 34 [.pointer (aN ⟨D1,0,aO⟩),.pointer aO,.string ⟨#[]⟩,.string ⟨#[]⟩],cJ D1 ⟨4194304,0,[],0,0,aQ,aQ⟩,dZ [],dp (cy Ee) 1 (aN ⟨b32,0,aO⟩) lnF,dp (cy SJ.cs) 5 a ops]from bA) ?_;refine X.dE (je (Ka B _ _) _) ?_;simp only[List.append_eq,bk,bh];have hy0:LB.ok ⟨qU,[],[]⟩ []:=⟨.nil,U,U⟩;refine xS ?_;refine fR [0,6,32] [0] (ι:={z:ab×LB×Y jY // z.1<=9/\z.2.1.ok z.2.2/\z.2.1.x.vN=aO/\z.2.1.s.length<=20*z.1}) (λz q_=>(33,bR (9:ab))::(34,bR z.1.1)::q_) (λz q_=>IE B z.1.2.1::q_) (λz=>9 - z.1.1) ⟨(0,⟨qU,[],[]⟩,[]),by omega,hy0,U,by simp⟩ ?_;rintro⟨⟨i,y,A⟩,hi,hy,ir,qN⟩ ih;dsimp only at hi hy ir qN ⊢;refine xS ?_;refine X.cond U (λh=>?_) (λh=>?_)
 ·have hi:i<lnF.length:=by simp at h;show i<9;omega
  obtain⟨vF,cm,pZ,hcd⟩:=by1 i hi;have SF:=hy.C2 bw;refine xS ?_;refine dJ U U U U U hi U λbl ol=>?_;generalize lnF[i]=ln at*;refine xS ?_;refine cM hG (BL (y:=y) (hcd y.x ir) bw bw) U U U bS.es ?_;rintro _ _ ⟨rfl,rfl⟩;dsimp only[bh,bk,bj];refine xS ?_;exact X.less (ih ⟨(i+1,y.zT ln cm,A++[cm]),hi,hy.zT pZ,by show(y.x.do cm).1.vN=aO;grind,by grind [lG]⟩ bQ) (Sub.cons U (Sub.cons U (Sub.cons U (Sub.cons U (Sub.cons (dI U nM) (Sub.nil _)))))) bA
 ·clear ih
  refine xS ?_
  refine cM hG (Pz (B:=B) (o:=⟨20,1,0,[],[]⟩) (n:=300) ⟨by decide,by decide,by decide,by decide⟩ eK hy bw) U U U bS.es ?_
  rintro _ _ ⟨rfl,y1,A1,H3,zp,rfl⟩
  dsimp only[bh,bk,bj]
  generalize A++A1=A2 at*
  clear ir
  refine xS ?_
  refine nk (ι:={z:LB×Y jY // z.1.ok z.2/\z.1.s.length<=28100}) (λz=>([(6,bu B)],[IE B z.1.1])) ?fin ?main
  case main=>
   intro KK dF;refine X.loop (ι:={z:ab×LB×Y jY // z.1<=ops.length/\z.2.1.ok z.2.2/\z.2.1.s.length<=28100}) (λz=>([(0,.slice a ops.length c),(6,bu B),(9,bR z.1.1)],[dp (cy SJ.cs) 5 a ops,IE B z.1.2.1])) (λz=>ops.length - z.1.1) ⟨(0,y1,A2),bp _,H3,by dsimp only;omega⟩ (Sub.cons U (Sub.cons U (Sub.cons U (Sub.nil _)))) bA ?_;clear hy H3 qN zp hi h;rintro⟨⟨i,y,A⟩,hi,hy,qN⟩ ih;dsimp only at hi hy qN ⊢;refine vZ B y λp=>?_;show X _ _ _ _ _ _ (bx B 34 [bu p.1,uu y.x p,bn y.s,bn y.w]::cJ p.1 y.x.ej::dZ (vT y.x p)::_) _;simp only[List.append_eq,bk,bh];refine xS ?_;refine X.split 49 U (λh1=>?_) (λh1=>?_)
   ·have hi:i<ops.length:=bQ
    (repeat(first|refine X' rfl rfl rfl ?_|refine X.fa rfl rfl rfl ?_|refine bl5 rfl rfl rfl cE ?_|refine Mj rfl rfl rfl ?_|refine X.go 1 rfl rfl ?_))
    by_cases hc:y.s.length<14000
    ·refine bD 55 aP U (aK bw) ?_;refine L5 B y p ?_;refine xS ?_;refine dJ U U U U U hi U λbl ol=>?_;have mM:=ae9 _ (bE hi);generalize ops[i]=r at*;obtain⟨k0,k1,n0,n1,m0,m1⟩:=mM;have ih:=λy2 A2 (h2:LB.ok y2 A2) (h3:y2.s.length<=28100)=>ih ⟨(i+1,y2,A2),hi,h2,h3⟩ bQ;dsimp only at ih;refine xS ?_;refine eT U U U U ?_;refine xS ?_;refine kq U U λtu=>?_;refine xS ?_;have hpn:=qi r.n (show 0<100000 by decide);have hpm:=qi r.m (show 0<1000 by decide);refine jJ hG (kI r.n 100000 n0 n1 eK) U U U ?_;generalize pick r.n 100000=pn at*;refine xS ?_;refine jJ hG (kI r.m 1000 m0 m1 eK) U U U ?_;generalize pick r.m 1000=pm at*;refine xS ?_;refine jJ hG (kI r.kind 4 k0 k1 eK) U U U ?_;generalize pick r.kind 4=pk at*;obtain⟨o,ho⟩:∃o:Op,o=⟨r.kind,pn,pm,r.a,r.b⟩:=⟨_,U⟩;have hoo:o.ok:=by rw[ho];exact⟨k0,k1,hpn,hpm⟩
     have tr:[bR r.kind,.int .i64 (pn:ae),.int .i64 (pm:ae),bn r.a,bn r.b]=o.cs:=by rw[ho];rfl
     have hgl:=λn=>xh o hoo n;refine xS ?_;refine X.dE (Hs':=[bx tu 39 o.cs,dp (cy SJ.cs) 5 a ops,IE B y]) (by rw[<-tr];exact bA) ?_;by_cases Ze:pk=0
     ·refine bD 77 aP U fD ?_;refine xS ?_;refine fU 6 [0] ?_;apply dB [0,1,2,3,4,5] U U U
      ·intro pp qb;refine xS ?_;refine X.rem U U U U eK ?_;rw[show(o.n:ae).tmod 3000=((o.n%3000:ab):ae)from rfl];exact Jz
      ·rfl
      ·rfl
      refine xS ?_;refine jJ hG (ur o hoo (o.n%3000)) U U U ?_;refine xS ?_;refine cM hG (Pz hoo (hgl _ bw) hy bw) U U U bS.es ?_;exact by2
     refine bD 77 aQ U fD ?_;refine xS ?_;by_cases hk1:pk=1
     ·refine bD 87 aP U fD ?_;refine xS ?_;refine fU 6 [0] ?_;apply dB [0,1,2,3,4,5] U U U
      ·intro pp qb;refine xS ?_;refine X.rem U U U U eK ?_;rw[show(o.n:ae).tmod 400=((o.n%400:ab):ae)from rfl];exact Jz
      ·rfl
      ·rfl
      refine xS ?_;refine jJ hG (ur o hoo (o.n%400)) U U U ?_;refine xS ?_;refine cM hG (SH hoo (hgl _ bw) hy bw) U U U bS.es ?_;exact by2
     refine bD 87 aQ U fD ?_;refine xS ?_;refine cM hG (Xm hoo hy bw) U U U bS.es ?_;exact by2
    ·refine bD 55 aQ U (aM bw) ?_;refine L5 B y p ?_;refine xS ?_;exact bk5
   ·refine xS ?_;refine L5 B y p ?_;exact bk5
  case fin=>
  clear hy H3 qN zp hi h
  rintro⟨⟨y,A⟩,hy,qN⟩
  dsimp only at hy qN ⊢
  refine vZ B y λp=>?_
  show X _ _ _ _ _ _ [bx B 34 [bu p.1,uu y.x p,bn y.s,bn y.w],cJ p.1 y.x.ej,dZ (vT y.x p)] _
  refine xS ?_
  by_cases hc:20000<y.s.length
  ·refine bD 102 aP U fD ?_;refine xS ?_;exact X.ret hb (.tmps U) ⟨_,⟨U,U⟩,bS.nil _⟩
  ·refine bD 102 aQ U fD ?_;refine xS ?_;have hr:=ar2 (s:=y.s) bw hy.wr.parse hy.wr.may (bo hy.wr.wt bw);rw[<-hy.w]at hr;refine cM hG hr U U U bS.es ?_;rintro _ _ ⟨rfl,rfl⟩;dsimp only[bh,bk,bj];refine xS ?_;exact X.ret hb (.tmps U) ⟨_,⟨by simp[mv],U⟩,bS.nil _⟩
end
end Go.Proofs
namespace Go.Proofs
open Go Go.Sl YtcicblljnenhoaaGreatDoor
open Go.ChangeShapes Go.WideShapes Go.RowKit Go.ChangeMaps
set_option maxRecDepth 8000
section
variable{cs:Y aR}{n:ab}
section
set_option maxRecDepth 100000
def opT(t:TypeId):Prop:=t=27\/t=39\/t=3\/t=9
theorem BO:be.cellsOf 39=5:=iB
theorem UC:Kids be opT:=by
 refine⟨?_,?_,?_,?_,?_⟩
 ·rintro t e (rfl|rfl|rfl|rfl) hu
  ·rw[Tryz.underlying27]at hu;cases hu
  ·rw[Tryz.underlying39]at hu;cases hu
  ·rw[gE]at hu;cases hu
  ·rw[gD]at hu;cases hu
 ·rintro t e (rfl|rfl|rfl|rfl) hu
  ·rw[Tryz.underlying27]at hu;cases hu;exact .inr (.inl U)
  ·rw[Tryz.underlying39]at hu;cases hu
  ·rw[gE]at hu;cases hu
  ·rw[gD]at hu;cases hu
 ·rintro t e n (rfl|rfl|rfl|rfl) hu
  ·rw[Tryz.underlying27]at hu;cases hu
  ·rw[Tryz.underlying39]at hu;cases hu
  ·rw[gE]at hu;cases hu
  ·rw[gD]at hu;cases hu
 ·rintro t fs (rfl|rfl|rfl|rfl) hu
  ·rw[Tryz.underlying27]at hu;cases hu
  ·rw[Tryz.underlying39]at hu
   cases hu
   have c3:be.cellsOf 3=1:=by kernel_rfl
   have c9:be.cellsOf 9=1:=by kernel_rfl
   refine⟨λf hf=>?_,by rw[BO];simp[c3,c9],λj f hj=>?_⟩
   ·simp only[cW,List.not_mem_nil,or_false]at hf
    rcases hf with rfl|rfl|rfl|rfl|rfl
    ·exact .inr (.inr (.inl U))
    ·exact .inr (.inr (.inl U))
    ·exact .inr (.inr (.inl U))
    ·exact .inr (.inr (.inr U))
    ·exact .inr (.inr (.inr U))
   ·match j,hj with
    |0,hj=>cases hj;rfl
    |1,hj=>cases hj;simp[c3]
    |2,hj=>cases hj;simp[c3]
    |3,hj=>cases hj;simp[c3]
    |4,hj=>cases hj;simp[c3,c9]
    |j+5,hj=>simp at hj
  ·rw[gE]at hu;cases hu
  ·rw[gD]at hu;cases hu
 ·rintro t k e (rfl|rfl|rfl|rfl) hu
  ·rw[Tryz.underlying27]at hu;cases hu
  ·rw[Tryz.underlying39]at hu;cases hu
  ·rw[gE]at hu;cases hu
  ·rw[gD]at hu;cases hu
section
variable {b54:Type}{cC:TypeId×aR->b54}{W:aV}
theorem at5{x:DataW b54×Y MemPlace}(h:DataW.trod cC be W 0 (λ_=>aP) aP n 39 cs=aN x):∃r:SJ,r.ok/\cs=r.cs:=by
 obtain⟨xs,m,-,-,hl,hn,hf⟩:=DataW.trod_struct Tryz.underlying39 h;have c3:be.cellsOf 3=1:=iB;have c9:be.cellsOf 9=1:=iB;have wf:∀k:ae,(Lit.int .i64 k).wf=aP->-9223372036854775808<=k/\k<=9223372036854775807:=λk hk=>by
  unfold Lit.wf at hk;rw[Bool.and_eq_true,decide_eq_true_eq,decide_eq_true_eq]at hk;exact hk
 rw[BO]at hl;match xs,hn with
 |[y0,y1,y2,y3,y4],_=>
  obtain⟨k0,e0,-,w0⟩:=DataW.trod_int gE (hf 0 _ U);obtain⟨k1,e1,-,w1⟩:=DataW.trod_int gE (hf 1 _ U);obtain⟨k2,e2,-,w2⟩:=DataW.trod_int gE (hf 2 _ U);obtain⟨k3,e3,-,-⟩:=DataW.trod_string gD (hf 3 _ U);obtain⟨k4,e4,-,-⟩:=DataW.trod_string gD (hf 4 _ U);have e0:(cs.drop 0).take (be.cellsOf 3)=[.int .i64 k0]:=e0;have e1:(cs.drop 1).take (be.cellsOf 3)=[.int .i64 k1]:=e1;have e2:(cs.drop 2).take (be.cellsOf 3)=[.int .i64 k2]:=e2;have e3:(cs.drop 3).take (be.cellsOf 9)=[.string k3]:=e3;have e4:(cs.drop 4).take (be.cellsOf 9)=[.string k4]:=e4;rw[c3]at e0 e1 e2;rw[c9]at e3 e4;match cs,hl with
  |[v0,v1,v2,v3,v4],_=>
   simp only[List.drop,List.take,List.cons.injEq,and_true]at e0 e1 e2 e3 e4;subst e0 e1 e2 e3 e4;exact⟨⟨k0,k1,k2,k3.data.toList,k4.data.toList⟩,⟨(wf _ w0).1,(wf _ w0).2,(wf _ w1).1,(wf _ w1).2,(wf _ w2).1,(wf _ w2).2⟩,U⟩
instance:Inhabited SJ:=⟨⟨0,0,0,[],[]⟩⟩
theorem at6{x:DataW b54×Y MemPlace}(h:DataW.trod cC be W 0 (λ_=>aP) aP n 27 cs=aN x):
 ∃(a:ah aX) (ops:Y SJ) (c:ab),cs=[.slice a ops.length c]/\(∀r∈ops,r.ok)/\xm (cy SJ.cs) 5 a ops (hp W)/\ops.length<=maxLen:=by
 rcases Go.Deep.open_slice Tryz.underlying27 h with⟨rfl,-⟩|⟨a,len,cap,m,k,D,Pl,rfl,-,hl,hm,Rs,-,hx⟩
 ·exact⟨aO,[],0,U,λr hr=>aD hr dW,.inl U,bp _⟩
 ·rw[ao U]at Rs;rw[BO]at hx;obtain⟨R,hR⟩:=Go.Deep.choose_lt (α:=SJ) (n:=len) (p:=λi r=>r.ok/\W.cells? 0 (a.add (i*5)) 5=aN r.cs) (λi hi=>by
   obtain⟨LY,h1,h2⟩:=hx i bw;obtain⟨r,h3,rfl⟩:=at5 h2;exact⟨r,h3,h1⟩)
  have vF:((List.range len).map R).length=len:=dW;refine⟨aN a,(List.range len).map R,cap,by rw[vF],λr hr=>?_,?_,by rw[vF];omega⟩
  ·obtain⟨i,hi,rfl⟩:=cu.1 hr;exact(hR i (List.mem_range.1 hi)).1
  ·by_cases h0:len=0
   ·left;rw[h0];rfl
   ·right;have hc:=λi (hi:i<len)=>World.cells?_some (hR i hi).2;have hs:a.spot=aO:=by
     have:=(hc 0 bw).2.2 0 eK;unfold gl at this;split at this
     ·split at this
      ·simp at this
      ·rename_i hh;simpa[Addr.add]using hh
     ·simp at this
    obtain⟨b,o,sp⟩:=a;dsimp only at hs;subst hs;have hadd:∀o n,Addr.add ⟨b,o,aO⟩ n=⟨b,o+n,aO⟩:=λo n=>by
     unfold Addr.add;split
     ·rename_i h;subst h;rfl
     ·rfl
    refine⟨b,o,U,λi r hr=>?_⟩;rw[eX]at hr;have hi:i<len:=by
     rcases Nat.lt_or_ge i len with h1|h1
     ·exact h1
     ·rw[List.getElem?_eq_none yz]at hr;cases hr
    rw[List.getElem?_range hi]at hr;cases hr;obtain⟨-,-,h3⟩:=hc i hi;refine⟨(R i).cs,U,?_,U⟩;have h4:∀j,j<5->W.cell? ⟨b,o+i*5+j,aO⟩=(R i).cs[j]?:=λj hj=>by
     have:=h3 j hj
     rwa [hadd,hadd]at this
    have h5:=h4 0 eK;unfold gl at h4 h5;dsimp only at h4 h5;cases hb:W.heap[b]? with
    |none=>rw[hb]at h5;cases h5
    |some ob=>
     rw[hb]at h4 h5;cases ob with
     |cells cs ty fr=>
      refine⟨cs,ty,fr,hb,λj v hj=>?_⟩;have hj5:j<5:=(List.getElem?_eq_some_iff.1 hj).1;have:=h4 j hj5;rw[hj]at this;exact this
     |_=>cases h5
theorem at7{f:ab}{args:ar aR}{v:aR}{q:Hp->Prop}(h:TR be GG f args [ro q] (dX v))(hg:GGp (hp W))(hq:∀r,Hp.le (hp W) r->q r):Calls be f args W λe W'=>e=.returned v/\W.keptBut W' (λ_=>False):=by
 refine(h ⟨W,hp W,gI,aQ⟩ W ⟨hg,λh=>by cases h⟩ ?_).mono ?_
 ·refine⟨hp W,gI,Hp.le.refl _,⟨Hp.le.refl _,dQ _,dQ _,λn=>.inr U,λn=>.inr U,λn=>.inr U⟩,?_,yZ.refl W⟩;exact⟨gI,gI,ef _,dQ _,dQ _,hq,trivial⟩
 ·rintro e W' ⟨B,hR,r,o,h1,h2,_,h3⟩;have he:e=.returned v:=by
   cases e with
   |returned u=>exact aH Ending.returned hR.1
   |_=>exact hR.elim
  refine⟨he,h3.1,h3.2.2.1,λi hi=>?_⟩;obtain⟨x,hx⟩:∃x,W.heap[i]?=aN x:=⟨W.heap[i],Array.getElem?_eq_getElem hi⟩;have hx':W'.heap[i]?=aN x:=h2.r _ _ (h1 _ _ hx);rw[hx,hx'];cases x with
  |cells c t f=>exact⟨U,U,U,λ_ _=>rfl⟩
  |map es clock=>exact .inr ⟨U,U⟩
  |_=>rfl
end
theorem labPlays_lifted(os:Os)(started:os.Started)(b54:Type)(cC:TypeId×aR->b54):
 ReturnsInHanded {} Tryz.checked os 4 .any (λw args=>(Rows.labPlaysSpec.pre cC be Tryz.f4 [] aQ w args/\laidMetH be wy w)/\sizedMet cC be Tryz.f4 (OpenSpec.ofChange Rows.labPlaysSpec) aQ w args)
  (Rows.labPlaysSpec.post cC be Tryz.f4 aQ aP aQ aQ):=by
 refine returnsInHanded_of_change_and (C:=Tryz.checked) (X:=λw _=>laidMetH be wy w) (λ_ _ _ hh h=>h.of_heap hh) bV1 started (by kernel_rfl) Tryz.func4
  (ChangeSpec.witness_shaped (C:=Tryz.checked) (os:=os) (X:=λw _=>laidMetH be wy w) aQ (lw os) #[.slice aO 0 0] 8 U (World.shaped_of_RefB (la os _) (lb os _)) (by kernel_rfl) (by kernel_rfl) (by kernel_rfl) (bP7 os _)) ?_
 intro W base args ds gs before hval0 hW _ hz hL _
 have hW':=hW
 obtain⟨p,q,hA0,hV,rfl,hfz,j7⟩:=hW
 have hA:DataW.TrodAll cC be W 0 (λ_=>aP) aP Tryz.f4.params.toList args.toList ds p:=hA0
 have Sd:∀(j:ab) t v,Tryz.f4.params[j]?=aN t->args[j]?=aN v->Value.okWide be W .any base t v:=hval0
 rw[Tryz.params4]at hA Sd
 obtain⟨v0,d0,rfl,rfl,h0⟩:=trodAll_one hA
 obtain⟨rfl,rfl⟩:=trodVars_none hV
 obtain⟨a0,n0,c0,rfl⟩:=okWide_slice Tryz.underlying27 (Sd 0 27 v0 U U)
 obtain⟨fuel,hf⟩:=h0
 obtain⟨a,ops,c,tr,ae9,qN,hol⟩:=at6 hf
 cases tr
 have ht:=at4 a0 c0 ops ae9 (bo hol (Nat.le_of_eq U))
 refine(at7 ht (aC3 hL) (λr hr=>qN.mono hr)).mono λe W' ⟨he,hk⟩=>?_
 subst he
 simp only[bj]at hW'
 have Dx:=DataW.trod_good UC (λh=>by cases h) fuel 27 _ _ (.inl U) hf
 have gj:∀q∈p,q.block<W.heap.size:=λq hq=>by
  have h:=Dx q hq
  rcases Nat.lt_or_ge q.block W.heap.size with h1|h1
  ·exact h1
  ·have hn:W.heap[q.block]?=aO:=Array.getElem?_eq_none h1
   cases q with
   |cell b o=>
    obtain⟨v,hv,-⟩:=h
    unfold gl at hv
    have hn:W.heap[b]?=aO:=hn
    dsimp only at hv
    rw[hn]at hv;cases hv
   |map b=>
    obtain⟨es,clock,hv⟩:=h
    have hn:W.heap[b]?=aO:=hn
    rw[hn]at hv;cases hv
 refine⟨_,U,_,_,_,[],p,[],hW',?_,?_,?_,World.keptBut_mono (λ_ h=>h.elim) hk,λh=>by cases h⟩
 ·exact trodAll_mk1 (shut_bool Tryz.underlying4 aP)
 ·refine trodAll_mk1 ⟨fuel,DataW.trod_stays UC (λht hu=>?_) (λh=>by cases h) (.inl U) hf (λq hq=>hk.sameAt (gj q hq) (λh=>h) λb hb=>?_) λq hq=>aK (gj q hq)⟩
  ·rcases ht with rfl|rfl|rfl|rfl
   ·rw[Tryz.underlying27]at hu;cases hu;rw[BO];decide
   ·rw[Tryz.underlying39]at hu;cases hu
   ·rw[gE]at hu;cases hu
   ·rw[gD]at hu;cases hu
  ·subst hb
   exact Dx _ hq
 ·rfl
end
end
end Go.Proofs
