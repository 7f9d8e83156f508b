/- A part of the proof of LabPlays. -/
import Derived.Test.YtcicblljnenhoaaGreatDoorProg
import Derived.Test.YtcicblljnenhoaaGreatDoorQA
open Array renaming getElem?_eq_some_iff->fB,getElem?_modify->fW,getElem?_toList->eE
open Bool renaming false->aQ,false_eq_true->di,true->aP
open Go renaming Addr->aX,Ending->aZ,Frame->bc,Oper->aW,Operand->aY,Program->aT,Value->aR,World->aV,execOp->aU
open Go.Instr renaming checkKey->iI,loadAt->jP,sliceBounds->iA,sureAddr->gh
open Int renaming toNat_natCast->gS
open Go.IntKind renaming bits->iM,i64->eu,signed->jX,u32->fi,u64->ee,u8->dS,wrap->jm
open Go.Lib renaming compareBytes->dY,countByte->cZ,indexByte->dT
open List renaming Perm.cons->iJ,Perm.refl->ie,Perm.swap->fM,all_eq_true->gi,append_assoc->cB,append_nil->bj,cons_append->bh,drop_eq_getElem_cons->bP,drop_of_length_le->cx,drop_zero->gx,ext_getElem?->fq,findIdx?_eq_some_iff_getElem->cA,flatMap_cons->ei,foldl_cons->eD,getElem?_eq_getElem->bX,getElem?_map->eX,getElem_cons_succ->fg,getElem_map->gG,getElem_mem->bE,length->eP,length_append->bK,length_cons->bL,length_map->bF,length_nil->dU,length_pos_iff->gL,length_set->fJ,length_take->dG,map_append->dx,map_congr_left->cY,map_cons->bN,map_map->dK,map_nil->jo,map_set->fL,mem_append->du,mem_cons->cW,mem_map->cu,mem_singleton->cK,nil_append->bk,nodup_append->fN,nodup_cons->gy,perm_append_comm->cH,perm_middle->gF,replicate->cQ,size_toArray->eW,sum_cons->fS,take_add_one->cg,take_append_drop->dV,take_length->bV,take_of_length_le->bI,take_succ_cons->gK,take_succ_eq_append_getElem->dO,take_zero->jr,toArray->dN
open Nat renaming add_mul->ic,beq->eU,blt->bM,eq_of_beq_eq_true->fX,le_add_right->bW,le_of_ble_eq_true->bH,le_refl->bz,le_trans->bo,mul_le_mul_right->eB,reduceAdd->gB,zero_add->bT,zero_le->bp
open Go.Op renaming equalIn->gq
open Option renaming getD_some->dz,map_eq_some_iff->cz,map_some->cO,none->aO,some->aN,some.injEq->gR
open Go.Program renaming fieldsOf->fj
open Go.Result renaming andThen_ok->bJ
open Go.Sem renaming run->gz,run_bind->cb,run_pure->db
open Go.Proofs.Tryz renaming prog->be,underlying3->gE,underlying9->gD
open UInt32 renaming ofNat->iN,toNat_inj->fk
open UInt64 renaming ofNat->gQ,toNat_inj->iX
open UInt8 renaming ofNat->cV
open Go.Value renaming bool->lx,int->gf
open Go.World renaming cell?->gl
open _root_ renaming Array->ar,Bool->ai,ByteArray->aJ,DecidableEq->aG,Except->aB,Int->ae,List->Y,Nat->ab,Option->ah,String->aC,UInt32->av,UInt64->az,UInt8->au,Unit->aA,absurd->aD,congrArg->aH,if_false->aI,if_neg->aj,if_pos->ao,inferInstance->ax,outParam->ay
set_option linter.all false
set_option maxHeartbeats 4000000
namespace Go.Sl
variable{O:de}{H:Y bG}{b:bc}{R:aZ->Y bG->Prop}{k:Kt}{N d ty:ab}{ds:Y Deferred}{ops:ar aW}{pos:aC}{af:ar Edge}{g:ah (ab×ai)}{E:Env}{cc:ah (ar aW×Y aW)}{w:aV}{G:dA}{α:Type}
section
variable{F rs A LZ:Y bG}{a:ah aX}{K:Type}{xs cs cap:Y aR}{f:FuncId}{x i:aY}{bl c t sz e n r kt et:ab}{M:Y (Y au×aR)}{P:aT}{zv:aR}(y:Y au)(L:Y bG)
def mS{α:Type}(cC:α->Y aR)(e sz ty:ab)(b:ab)(l:Y α):bG:=ex λp:ah aX×ab=>[bx b ty [.slice p.1 l.length p.2],own e sz p.1 l.length p.2 (l.flatMap cC)]
def UZ{α:Type}(cC:α->Y aR)(e sz:ab)(l:Y α)(v:aR)(B:Y bG):Prop:=∃a c,v=.slice a l.length c/\B=[own e sz a l.length c (l.flatMap cC)]
theorem X1{α:Type}(cC:α->Y aR)(e sz ty:ab)(b:ab)(F:Y bG):VS (bx b ty [.slice aO 0 0]::F) (mS cC e sz ty b []::F):=λO w hs=>by
 have h:=j6 (e:=e) (sz:=sz) (H:=bx b ty [.slice aO 0 0]::F) hs;refine Sat.dE h ?_;refine(eo _ _ _).trans ?_;exact iY (ι:=ah aX×ab) (f:=λp=>[bx b ty [.slice p.1 ([]:Y α).length p.2],own e sz p.1 ([]:Y α).length p.2 (([]:Y α).flatMap cC)]) (aO,0) F
section
variable{P:aT}{vs:Y (ab×aR)}{rest:Y aW}
theorem C7{α:Type}(cC:α->Y aR)(e sz:ab)(bl:ab){ty:ab}{cc:ah (ar aW×Y aW)}{E:Env}[hf:FB H bl ty cs rs](tr:cs=[.slice aO 0 0])(h:X P b O cc k E (mS cC e sz ty bl []::rs) R):X P b O cc k E H R:=by
 subst tr
 exact X.dE hf.out (yK (X1 cC e sz ty bl rs) h)
theorem nK{α:Type}(cC:α->Y aR)(e sz ty bl:ab){l:Y α}{cc:ah (ar aW×Y aW)}{E:Env}[hf:FK H (mS cC e sz ty) bl l rs](h:∀a c,X P b O cc k E (bx bl ty [.slice a l.length c]::own e sz a l.length c (l.flatMap cC)::rs) R):X P b O cc k E H R:=
 j9 λ_ hs=>let⟨i,hi⟩:=jB (hs.dE hf.out);⟨_,hi,h i.1 i.2⟩
theorem vk{α:Type}(cC:α->Y aR)(e sz ty bl:ab)(l:Y α){cc:ah (ar aW×Y aW)}{E:Env}[hf:FB H bl ty cs rs](tr:cs=[.slice a l.length c])[ho:FP rs (own e sz a l.length c (l.flatMap cC)) LZ](h:X P b O cc k E (mS cC e sz ty bl l::LZ) R):X P b O cc k E H R:=by
 subst tr
 exact X.dE ((hf.out.trans (bS.cons _ ho.out)).trans (iY (f:=λp:ah aX×ab=>[bx bl ty [.slice p.1 l.length p.2],own e sz p.1 l.length p.2 (l.flatMap cC)]) (a,c) LZ)) h
theorem fH[hk:Kt.pC k]{α:Type}{cC:α->Y aR}{l:Y α}(x1:α){Di c2 bt:ab}{y:aY}{zs:Y aR}[ht:qQ P t e][hz:jH P e sz][Xw:Ap P e Di][Qd:TZ P e zs](hw:bO ops vs ⟨aN d,.call ⟨.builtin .append,#[x,y],#[t,t]⟩,ty,pos,af,g⟩=aN aP)(hn:bM d N=aP)(hx:fI vs x=aN (.slice a n c))(hy:fI vs y=aN (.slice (aN ⟨bl,0,aO⟩) 1 c2))[ho:FO H a e sz n c xs rs][hs:FB rs bl bt cs LZ](Xz:n=l.length)(KH:xs=l.flatMap cC)(tr:cs=cC x1)(D5:eU zs.length sz=aP)(hl:eU cs.length (1*sz)=aP)(h1:nY cs=aP)(HW:Nat.ble 1 Di=aP)(hb:(l.length+1)*Di<=140737488355328)(h:∀a' c',X P b O (aN (ops,rest)) k ⟨N,(d,.slice a' (l++[x1]).length c')::vs,ds⟩ (own e sz a' (l++[x1]).length c' ((l++[x1]).flatMap cC)::LZ) R):
 X P b O (aN (ops,⟨aN d,.call ⟨.builtin .append,#[x,y],#[t,t]⟩,ty,pos,af,g⟩::rest)) k ⟨N,vs,ds⟩ H R:=by
 subst Xz KH tr
 refine uy hw hn hx hy D5 hl h1 HW hb λa' c'=>?_
 have:=h a' c'
 grind
end
def vn(ty:ab)(b:ab)(l:Y au):bG:=ex λp:ah aX×ab=>[bx b ty [.slice p.1 l.length p.2],own 5 1 p.1 l.length p.2 (l.map gT)]
section
variable{P:aT}{vs:Y (ab×aR)}{rest:Y aW}
theorem Yh(ty:ab)(b:ab)(F:Y bG):VS (bx b ty [.slice aO 0 0]::F) (vn ty b []::F):=λO w hs=>by
 have h:=j6 (e:=5) (sz:=1) (H:=bx b ty [.slice aO 0 0]::F) hs;refine Sat.dE h ?_;refine(eo _ _ _).trans ?_;exact iY (ι:=ah aX×ab) (f:=λp=>[bx b ty [.slice p.1 ([]:Y au).length p.2],own 5 1 p.1 ([]:Y au).length p.2 (([]:Y au).map gT)]) (aO,0) F
theorem bB2(bl:ab){ty:ab}[hf:FB H bl ty cs rs](tr:cs=[.slice aO 0 0])(h:X P b O cc k E (vn ty bl []::rs) R):X P b O cc k E H R:=by
 subst tr
 exact X.dE hf.out (yK (Yh ty bl rs) h)
theorem S5(ty bl:ab){l:Y au}[hf:FK H (vn ty) bl l rs](h:∀a c,X P b O cc k E (bx bl ty [.slice a l.length c]::own 5 1 a l.length c (l.map gT)::rs) R):X P b O cc k E H R:=
 j9 λ_ hs=>let⟨i,hi⟩:=jB (hs.dE hf.out);⟨_,hi,h i.1 i.2⟩
theorem aR8(ty bl:ab)(l:Y au)[hf:FB H bl ty cs rs](tr:cs=[.slice a l.length c])[ho:FP rs (own 5 1 a l.length c (l.map gT)) LZ](h:X P b O cc k E (vn ty bl l::LZ) R):X P b O cc k E H R:=by
 subst tr
 exact X.dE ((hf.out.trans (bS.cons _ ho.out)).trans (iY (f:=λp:ah aX×ab=>[bx bl ty [.slice p.1 l.length p.2],own 5 1 p.1 l.length p.2 (l.map gT)]) (a,c) LZ)) h
theorem mc[hf:FP H (dZ L) rs](h:X P b O cc k E (L++rs) R):X P b O cc k E H R:=
 X.dE (hf.out.trans (iR L rs)) h
theorem hU[hf:ES H L rs](h:X P b O cc k E (dZ L::rs) R):X P b O cc k E H R:=
 X.dE (hf.out.trans (iE L rs)) h
theorem Km(L':Y bG)(hL:L'=L)[hf:ES H L' rs](h:X P b O cc k E (dZ L::rs) R):X P b O cc k E H R:=by
 subst hL;exact hU L' h
theorem ku(α:Type)(Re:Rp α)(sz:ab)(h:X P b O cc k E (dp Re sz aO ([]:Y α)::H) R):X P b O cc k E H R:=
 X.dE (Hs':=dp Re sz aO ([]:Y α)::H) (λ_ o h=>⟨gI,o,ef _,dQ _,.refl _,λ_ _=>.inl U,h⟩) h
end
def kv(e:MapEntry):aR×aR:=(e.key,e.val)
theorem Dp:∀(l:Y MapEntry) (i:ab) (h:i<l.length),(l.map (·.born)).Nodup->l.filter (λe=> !(e.born==l[i].born))=l.eraseIdx i
 |[],i,h,_=>by cases h
 |x::r,0,h,hn=>by
  simp_all
 |x::r,i+1,h,hn=>by
  have hl:i<r.length:=Au;simp only[bN,gy,cu,not_exists,not_and]at hn;simp only[fg,List.eraseIdx_cons_succ,List.filter_cons];have mf:¬x.born=r[i].born:=λhh=>hn.1 r[i] (bE hl) hh.symm;simp only[beq_iff_eq,mf,Bool.not_false,if_true,beq_eq_false_iff_ne.2 mf];rw[Dp r i hl hn.2]
structure Qn where
 es:ar MapEntry
 oH:ab
 seen:ar ab
 c0:ab
 since:ab
def MP{K:Type}(cC:K->aR)(M S:Y (K×aR))(lJ:ah (K×aR))(i:Qn):Prop:=
 i.es.toList.map kv=M.map (λp=>(cC p.1,p.2))/\(i.es.toList.map (·.born)).Nodup/\(∀e∈i.es.toList,e.born<i.since)/\i.since<=i.c0/\i.since<=i.oH/\
 (leftOf i.es i.seen).toList.map kv=S.map (λp=>(cC p.1,p.2))/\
 (∀p,lJ=aN p->i.c0=i.oH/\∃e∈i.es.toList,∃s0:ar ab,i.seen=s0.push e.born/\kv e=(cC p.1,p.2))
def If{K:Type}(cC:K->aR)(r bm:ab)(M S:Y (K×aR))(lJ:ah (K×aR)):bG:=
 ex λi:Qn=>[pu (MP cC M S lJ i),pt r (.mapIter (aN bm) i.since i.seen i.c0),pt bm (.map i.es i.oH)]
class FRg(H:Y bG)(r:ab){K:ay Type}(cC:ay (K->aR))(bm:ay ab)(M S:ay (Y (K×aR)))(lJ:ay (ah (K×aR)))(rest:ay (Y bG)):Prop where out:bS H (If cC r bm M S lJ::rest)
instance FRg.here{K:Type}(cC:K->aR)(r bm:ab)(M S:Y (K×aR))(lJ:ah (K×aR))(H:Y bG):FRg (If cC r bm M S lJ::H) r cC bm M S lJ H:=⟨bS.refl _⟩
instance(priority:=low) FRg.there(p:bG)(H:Y bG)(r:ab){K:Type}(cC:K->aR)(bm:ab)(M S:Y (K×aR))(lJ:ah (K×aR))(rest:Y bG)[h:FRg H r cC bm M S lJ rest]:FRg (p::H) r cC bm M S lJ (p::rest):=
 ⟨(bS.cons p h.out).trans (eo _ _ _)⟩
theorem MQ(es:ar MapEntry)(seen:ar ab)(n:ab):(leftOf es (seen.push n)).toList=(leftOf es seen).toList.filter (λe=> !(e.born==n)):=by
 grind [leftOf,List.filter_filter,List.filter_congr]
section
variable{P:aT}{vs:Y (ab×aR)}{rest:Y aW}
theorem xk{cC:K->aR}{bm:ab}{M S:Y (K×aR)}{lJ:ah (K×aR)}{w:aV}(i:Qn)(hp:MP cC M S lJ i)(h:Sat O (Sl.pt r (.mapIter (aN bm) i.since i.seen i.c0)::Sl.pt bm (.map i.es i.oH)::F) w):Sat O (If cC r bm M S lJ::F) w:=
 (h.dE (fE hp _)).dE (iY (f:=λi:Qn=>[pu (MP cC M S lJ i),Sl.pt r (.mapIter (aN bm) i.since i.seen i.c0),Sl.pt bm (.map i.es i.oH)]) i F)
theorem Ad{cC:K->aR}{bm:ab}{M S:Y (K×aR)}{lJ:ah (K×aR)}{w:aV}(h:Sat O (If cC r bm M S lJ::F) w):
 ∃i:Qn,MP cC M S lJ i/\Sat O (Sl.pt r (.mapIter (aN bm) i.since i.seen i.c0)::Sl.pt bm (.map i.es i.oH)::F) w:=by
 obtain⟨i,hi⟩:=jB h
 grind [lR]
theorem tj[hk:Kt.pC k]{cC:K->aR}{M:Y (K×aR)}[ht:zV P t kt et][hf:FM H bl cC M F](hw:bO ops vs ⟨aN d,.range t x,ty,pos,af,g⟩=aN aP)(hn:bM d N=aP)(hx:fI vs x=aN (.map (aN bl)))(h:∀r,X P b O (aN (ops,rest)) k ⟨N,(d,.pointer (aN ⟨r,0,aO⟩))::vs,ds⟩ (If cC r bl M M aO::F) R):
 X P b O (aN (ops,⟨aN d,.range t x,ty,pos,af,g⟩::rest)) k ⟨N,vs,ds⟩ H R:=
 mN (v:=λr=>.pointer (aN ⟨r,0,aO⟩)) (Hs':=λr=>If cC r bl M M aO::F) U hn hw (λa w he hs=>by
  have e1:=bU he hx;obtain⟨o,⟨es,oH,rfl,h1,h2,h3⟩,vQ⟩:=Sat.map (hs.dE hf.out);have hb:=fF vQ;refine⟨w.heap.size,w.alloc (.mapIter (aN bl) oH #[] oH),?_,xk ⟨es,oH,#[],oH,oH⟩ ⟨h1,h2,h3,bz _,bz _,?_,λp hp=>by cases hp⟩ (Sat.mR vQ _)⟩
  ·simp[aU,e1,run_range_map w t kt et bl es oH ht.out hb]
  ·rw[<-h1];unfold leftOf;simp only[Array.toList_filter];rw[List.filter_eq_self.2 dW];rfl) h
theorem yG[hk:Kt.pC k]{cC:K->aR}{M S:Y (K×aR)}{lJ:ah (K×aR)}[hf:FRg H r cC bl M S lJ F](hw:bO ops vs ⟨aN d,.next x aQ,ty,pos,af,g⟩=aN aP)(hn:bM d N=aP)(hx:fI vs x=aN (.pointer (aN ⟨r,0,aO⟩)))(h0:S=[]->X P b O (aN (ops,rest)) k ⟨N,(d,.tuple #[.bool aQ])::vs,ds⟩ (If cC r bl M [] aO::F) R)(h1:∀(i:ab) (hi:i<S.length),X P b O (aN (ops,rest)) k ⟨N,(d,.tuple #[.bool aP,cC S[i].1,S[i].2])::vs,ds⟩ (If cC r bl M (S.eraseIdx i) (aN S[i])::F) R):
 X P b O (aN (ops,⟨aN d,.next x aQ,ty,pos,af,g⟩::rest)) k ⟨N,vs,ds⟩ H R:=
 mN (ι:=ah (Fin S.length)) (v:=λq=>match q with|none=>.tuple #[.bool aQ]|some i=>.tuple #[.bool aP,cC S[i].1,S[i].2])
  (Hs':=λq=>match q with|none=>pu (S=[])::If cC r bl M [] aO::F|some i=>If cC r bl M (S.eraseIdx i) (aN S[i])::F) U hn hw (λa w he hs=>by
  have e1:=bU he hx
  obtain⟨i,⟨p1,p2,p3,p4,p5,p6,p7⟩,vQ⟩:=Ad (hs.dE hf.out)
  have hr:=fF vQ
  have hb:=fF (vQ.dE (eo _ _ _))
  have vm:((leftOf i.es i.seen).toList.map (·.born)).Nodup:=by
   grind [leftOf]
  rcases run_next_at (P:=P) w ty r bl i.since i.c0 i.seen i.es i.oH hr hb p3 p4 with⟨h2,h3⟩|⟨e,he2,w1,MS,h3⟩
  ·have hS:S=[]:=by
    simp_all
   refine⟨aO,w,by simp[aU,e1,h3],?_⟩;refine(xk (M:=M) (S:=[]) (cC:=cC) i ⟨p1,p2,p3,p4,p5,by rw[p6,hS],λp hp=>by cases hp⟩ vQ).dE (fE hS _)
  ·obtain⟨j,hj,rfl⟩:=List.getElem_of_mem he2;have hlen:(leftOf i.es i.seen).toList.length=S.length:=by have:=aH eP p6;grind
   have hjS:j<S.length:=bw;have hkv:kv ((leftOf i.es i.seen).toList[j])=(cC S[j].1,S[j].2):=by
    have h9:((leftOf i.es i.seen).toList.map kv)[j]' bQ=(S.map λp=>(cC p.1,p.2))[j]' bQ:=bQ
    grind
   have h4:(aU a.eval ⟨aN d,.next x aQ,ty,pos,af,g⟩).run P w=.ok (.value (.tuple #[.bool aP,cC S[j].1,S[j].2])) (ChangeMaps.setBlock w1 r (.mapIter (aN bl) i.since (i.seen.push ((leftOf i.es i.seen).toList[j]).born) i.oH)):=by
    have hkv':=hkv;simp only[kv,Prod.mk.injEq]at hkv';rw[hkv'.1,hkv'.2]at h3;simp[aU,e1,h3]
   refine⟨aN ⟨j,hjS⟩,_,h4,?_⟩
   ·have hs3:Sat O (Sl.pt r (.mapIter (aN bl) i.since i.seen i.c0)::Sl.pt bl (.map i.es i.oH)::F) w1:=by rcases MS with rfl|rfl;exact vQ;exact vQ.drew
    refine xk ⟨i.es,i.oH,i.seen.push ((leftOf i.es i.seen).toList[j]).born,i.oH,i.since⟩ ⟨p1,p2,p3,p5,p5,?_,λp hp=>⟨U,(leftOf i.es i.seen).toList[j],?_,i.seen,U,?_⟩⟩ (Sat.setObj hs3)
    ·rw[MQ,Dp _ j hj vm,map_eraseIdx,p6,<-map_eraseIdx]
    all_goals grind [leftOf]) (λq=>by
  cases q with
  |none=>exact mF h0
  |some i=>exact h1 i.1 i.2)
theorem B0{cC:K->aR}{M S:Y (K×aR)}{p:K×aR}[hf:FRg H r cC bl M S (aN p) F](hw:bO ops vs ⟨aN d,.entry x,ty,pos,af,g⟩=aN aP)(hn:bM d N=aP)(hx:fI vs x=aN (.pointer (aN ⟨r,0,aO⟩)))(h:X P b O (aN (ops,rest)) k ⟨N,(d,.tuple #[cC p.1,p.2])::vs,ds⟩ H R):
 X P b O (aN (ops,⟨aN d,.entry x,ty,pos,af,g⟩::rest)) k ⟨N,vs,ds⟩ H R:=
 X.val U hn hw (λa w he hs=>by
  have e1:=bU he hx;obtain⟨i,⟨p1,p2,p3,p4,p5,p6,p7⟩,vQ⟩:=Ad (hs.dE hf.out);have hr:=fF vQ;have hb:=fF (vQ.dE (eo _ _ _));obtain⟨h7,e,he2,s0,h8,h9⟩:=p7 p U;rw[h8,h7]at hr;have PA:=run_entry_at (P:=P) w r bl i.since s0 i.es i.oH e hr hb he2 p2;simp only[kv,Prod.mk.injEq]at h9;simp[aU,e1,PA,h9.1,h9.2]) h
theorem BW{cC:K->aR}(r:ab){M S:Y (K×aR)}{lJ:ah (K×aR)}{cc:ah (ar aW×Y aW)}{E:Env}[hf:FRg H r cC bl M S lJ F](h:X P b O cc k E (mp cC bl M::F) R):X P b O cc k E H R:=
 j9 λw hs=>by
  obtain⟨i,hp,vQ⟩:=Ad (hs.dE hf.out);refine⟨_,om (vQ.dE (bS.drop _ _)) ⟨i.es,i.oH,U,hp.1,hp.2.1,λe he=>Nat.lt_of_lt_of_le (hp.2.2.1 e he) hp.2.2.2.2.1⟩,h⟩
end
def Dq(P:aT)(G:dA)(f:FuncId)(cap:Y aR)(A:Y bG){α:Type}(cC:α->Y aR)(pok fok:Y α->Prop):Prop:=
 ∀(l:ab) (I:Y α->Y bG) (J:Y bG),
  (∀pre x,pok (pre++[x])->YT P G l (cC x).toArray (I pre) (dC (YQ (I (pre++[x])) J)))->
  TR P G f (.func (.yield l) #[] #[]::cap).toArray (A++I []) (dC λ_ B=>(∃ys,fok ys/\B=A++I ys)\/B=A++J)
theorem Dq.of{G:dA}{α:Type}{cC:α->Y aR}{xs:Y α}(h:IT P G f cap A cC xs):Dq P G f cap A cC (λpre=>∃post,xs=pre++post) (λys=>ys=xs):=by
 intro l I J hY;refine(h l I J λpre x post hx=>hY pre x ⟨post,by rw[hx];simp⟩).eY (bS.refl _) ?_;rintro e B hB;cases e with
 |panicked ch=>exact hB.elim
 |outgrown=>exact hB.elim
 |returned v=>
  rcases hB with rfl|rfl
  ·exact⟨_,.inl ⟨xs,U,U⟩,bS.refl _⟩
  ·exact⟨_,.inr U,bS.refl _⟩
theorem Dq.mk{G:dA}{α:Type}{cC:α->Y aR}{pok fok:Y α->Prop}(h:∀(l:ab) (I:Y α->bG) (J:bG),(∀pre x,pok (pre++[x])->YT P G l (cC x).toArray [I pre] (dC (YQ [I (pre++[x])] [J])))->
  TR P G f (.func (.yield l) #[] #[]::cap).toArray (A++[I []]) (dC λ_ B=>(∃ys,fok ys/\B=A++[I ys])\/B=A++[J])):Dq P G f cap A cC pok fok:=by
 intro l I J hY
 refine(h l (λp=>dZ (I p)) (dZ J) λpre x hx=>(hY pre x hx).eY (gm _) ?_).eY (nI A (iS _)) ?_
 ·exact bp4
 ·rintro e B hB;cases e with
  |panicked ch=>exact hB.elim
  |outgrown=>exact hB.elim
  |returned v=>
   rcases hB with⟨ys,AD,rfl⟩|rfl
   ·exact⟨_,.inl ⟨ys,AD,U⟩,nI A (gm _)⟩
   ·exact⟨_,.inr U,nI A (gm _)⟩
theorem Dq.dZ{G:dA}{α:Type}{cC:α->Y aR}{pok fok:Y α->Prop}(h:Dq P G f cap A cC pok fok):Dq P G f cap [Sl.dZ A] cC pok fok:=by
 intro l I J hY;refine(h l I J hY).eY (iR A _) ?_;rintro e B hB;cases e with
 |panicked ch=>exact hB.elim
 |outgrown=>exact hB.elim
 |returned v=>
  rcases hB with⟨ys,AD,rfl⟩|rfl
  ·exact⟨_,.inl ⟨ys,AD,U⟩,iE A _⟩
  ·exact⟨_,.inr U,iE A _⟩
section
variable{P:aT}{vs:Y (ab×aR)}
theorem IK{G:dA}(hG:G.on O){f0:ab}(nA:nL b f0){f:ab}[uD:CF P f]{g:aY}{ps:Y ab}{b49 bd:Code}{k:Y Item}{α:Type}{cC:α->Y aR}{pok fok:Y α->Prop}{F1:Y bG}(hit:Dq P G f cap A cC pok fok)(hg:fI vs g=aN (.func (.func f) #[] cap.toArray))(I:Y α->Y bG)(I0:Y bG)(h0:I0=I [])[hA1:ES H A F1][hA2:ES F1 I0 F](hl:∀x,ps.length=(cC x).length)(hp:∀p∈ps,bM p N=aP)(body:∀(b':bc) (β':de) (l:ab) (r:Loop) (pre:Y α) (x:α),pok (pre++[x])->b'.roundOf=aN l->G.on β'->r.state=.ready->
  X P b' β' aO (.it [.code b49,.beginRound,.code bd]) ⟨N,AB ps (cC x) vs,[]⟩ (pt l (.loop r)::I pre) (dC (YQ (pt l (.loop {r with state:=.ready,pending:=aO})::I (pre++[x])) (pt l (.loop {r with state:=.done,pending:=aN .ret})::[pu False]))))(done:∀D ys,fok ys->X P b O aO (.it k) ⟨N,vs,⟨.collected D,#[]⟩::ds⟩ (pt D (.deferred (aN []))::(A++I ys++F)) R):
 X P b O aO (.it (.code (.rangeFunc g ps.toArray b49 bd)::k)) ⟨N,vs,ds⟩ H R:=by
 subst h0
 refine E0 (pok:=λpre x=>pok (pre++[x])) (fok:=λys A2=>fok ys/\A2=A) (sok:=λ_=>True) hG nA (λl I J hY=>(hit l I J hY).rm λv B h=>h.imp (fun⟨ys,h1,h2⟩=>⟨ys,A,⟨h1,U⟩,h2⟩) λh=>⟨_,trivial,h⟩) hg I [pu False] (F:=F) bp5 hl hp body (λD ys A2 h=>by obtain⟨h,rfl⟩:=h;exact done D ys h) λD A3 _=>?_
 refine XR.no (F:=pt D (.deferred (aN []))::(A3++F)) ?_
 refine(bS.cons _ ?_).trans (eo _ _ _)
 refine ew ?_
 simp_all
end
class ze(P:aT)(t:ab)(zv:ay aR):Prop where out:(P.info? t).bind (·.zero)=aN zv
theorem ze.run(h:ze P t zv)(w:aV):(zeroValue t).run P w=.ok zv w:=by
 obtain⟨i,hi,hz⟩:=Option.bind_eq_some_iff.1 h.out;simp[zeroValue,Fh hi,hz]
section
variable{P:aT}{vs:Y (ab×aR)}{rest:Y aW}
theorem tP[ht:zV P t kt et][hs:qm P kt][hz:ze P et zv][hf:FM H bl bn M F](hw:bO ops vs ⟨aN d,.lookup t x i aQ,ty,pos,af,g⟩=aN aP)(hn:bM d N=aP)(hx:fI vs x=aN (.map (aN bl)))(hi:fI vs i=aN (bn y))(h:X P b O (aN (ops,rest)) k ⟨N,(d,(gM M y).getD zv)::vs,ds⟩ H R):
 X P b O (aN (ops,⟨aN d,.lookup t x i aQ,ty,pos,af,g⟩::rest)) k ⟨N,vs,ds⟩ H R:=
 sQ y dy hw hn hx hi (λw _=>hz.run w) h
theorem PR[ht:zV P t kt et][hs:qm P kt][hz:ze P et zv][hf:FM H bl bn M F](hw:bO ops vs ⟨aN d,.lookup t x i aP,ty,pos,af,g⟩=aN aP)(hn:bM d N=aP)(hx:fI vs x=aN (.map (aN bl)))(hi:fI vs i=aN (bn y))(h:X P b O (aN (ops,rest)) k ⟨N,(d,.tuple #[(gM M y).getD zv,.bool (gM M y).isSome])::vs,ds⟩ H R):
 X P b O (aN (ops,⟨aN d,.lookup t x i aP,ty,pos,af,g⟩::rest)) k ⟨N,vs,ds⟩ H R:=
 Yd y dy hw hn hx hi (λw _=>hz.run w) h
end
theorem I9{O:de}{H:Y bG}{w:aV}(h:Sat O H w)(hf:bS H (own e sz a n c xs::F)):(a=aO/\n=0/\c=0)\/∃g,a=aN ⟨g,0,aO⟩/\n<=c:=by
 rcases eR (h.dE hf)with⟨h0,h1,h2,_⟩|⟨g,_,h1,_,h2,_⟩;all_goals grind
section
variable{P:aT}{vs:Y (ab×aR)}{rest:Y aW}
def qw(a:ah aX)(c l sz:ab):ah aX:=if decide (c=l)=aP then a else a.map (·.add (l*sz))
theorem Yf{e' sz' l h:ab}{low high:ah aY}[ht:qQ P t e][hz:jH P e sz](hw:bO ops vs ⟨aN d,.slice t x low high aO,ty,pos,af,g⟩=aN aP)(hn:bM d N=aP)(hx:fI vs x=aN (.slice a n c))[hf:FO H a e' sz' n c xs F](hl:Bd vs 0 low l)(hh:Bd vs n high h)(h1:l<=h)(h2:h<=n)(hk:n<=c->X P b O (aN (ops,rest)) k ⟨N,(d,.slice (qw a c l sz) (h - l) (c - l))::vs,ds⟩ H R):X P b O (aN (ops,⟨aN d,.slice t x low high aO,ty,pos,af,g⟩::rest)) k ⟨N,vs,ds⟩ H R:=by
 refine j9 λw hs=>⟨H,hs,?_⟩
 have qn:n<=c:=bH0
 refine X.val (v:=.slice (qw a c l sz) (h - l) (c - l)) U hn hw (λact w he hs=>?_) (hk qn)
 have e1:=bU he hx
 have e3:=pD (P:=P) (w:=w) he (isS:=aP) (cap:=c) hl hh h1 bw
 simp[aU,e1,Instr.sliceAt,Instr.slice,cI ht.out,e3,jR hz.out,qw]
theorem X5{e' sz' m:ab}{y z:aY}{kk kk':IntKind}{my mz:ae}[ht:qQ P t e][hz:jH P e sz](hw:bO ops vs ⟨aN d,.slice t x aO (aN y) (aN z),ty,pos,af,g⟩=aN aP)(hn:bM d N=aP)(hx:fI vs x=aN (.slice a n c))(hy:fI vs y=aN (.int kk my))(hz':fI vs z=aN (.int kk' mz))(hmy:my=(m:ae))(hmz:mz=(m:ae))[hf:FO H a e' sz' n c xs F](h2:m<=n)(hk:X P b O (aN (ops,rest)) k ⟨N,(d,.slice a m m)::vs,ds⟩ H R):X P b O (aN (ops,⟨aN d,.slice t x aO (aN y) (aN z),ty,pos,af,g⟩::rest)) k ⟨N,vs,ds⟩ H R:=by
 refine X.val (v:=.slice a m m) U hn hw (λact w he hs=>?_) hk
 have e1:=bU he hx
 have e2:=bU he hy
 have e3:=bU he hz'
 subst hmy;subst hmz
 have hc:m<=c:=bH0
 have hb:(iA aP n c aO (aN (.int kk m)) (aN (.int kk' m))).run P w=.ok (0,m,m) w:=by
  simp[iA,run_sliceBound hc,run_sliceBound (bz m)]
 have ha:(if decide (m=0)=aP then a else a.map (·.add (0*sz)))=a:=by
  rcases I9 hs hf.out with⟨h3,_⟩|⟨g,h3,_⟩<;>subst h3<;>simp[Addr.add]
 have Es:(Instr.slice t (.slice a n c) aO (aN (.int kk m)) (aN (.int kk' m))).run P w=.ok (.slice a m m) w:=by
  simp only[Instr.slice,cb,cI ht.out,bJ,hb,jR hz.out,db]
  grind
 simp[aU,e1,e2,e3,Instr.sliceAt,cI ht.out,Es]
theorem L3{E:Env}{cc:ah (ar aW×Y aW)}(m:ab)[hf:FO H a e sz n c xs F](hm:m<=n)(h:X P b O cc k E (own e sz a m m (xs.take (m*sz))::F) R):X P b O cc k E H R:=
 j9 λw hs=>by
  refine⟨_,?_,h⟩
  rcases eR (hs.dE hf.out)with⟨rfl,h0,rfl,rfl,vQ⟩|⟨g,cur,rfl,h3,h6,h7,h8,h9,vQ⟩
  ·subst h0
   grind [j6]
  grind [eB,gY]
theorem nX{E:Env}{cc:ah (ar aW×Y aW)}(a:ah aX)[hf:FO H a e sz n c xs F](h:(a=aO->n=0/\c=0)->n<=c->X P b O cc k E H R):X P b O cc k E H R:=
 j9 λw hs=>by
  refine⟨H,hs,?_⟩;rcases I9 hs hf.out with⟨h1,h2,h3⟩|⟨g,h1,h2⟩
  ·exact h (λ_=>⟨h2,h3⟩) bw
  ·exact h (λhh=>by grind) h2
theorem EY[hkk:Kt.pC k][aG K]{cC:K->aR}{t2:ab}{m:aY}{M:Y (K×aR)}(y:K)[ht:zV P t kt et][hf:FM H bl cC M F](hk:Keyed P kt cC)(hw:bO ops vs ⟨aO,.call ⟨.builtin .delete,#[m,i],#[t,t2]⟩,ty,pos,af,g⟩=aN aP)(hm:fI vs m=aN (.map (aN bl)))(hi:fI vs i=aN (cC y))(h:X P b O (aN (ops,rest)) k ⟨N,vs,ds⟩ (mp cC bl (vB M y)::F) R):
 X P b O (aN (ops,⟨aO,.call ⟨.builtin .delete,#[m,i],#[t,t2]⟩,ty,pos,af,g⟩::rest)) k ⟨N,vs,ds⟩ H R:=by
 intro hb
 refine X.op hw (λa w he hs=>?_) hb
 have e1:=bU he hm
 have e2:=bU he hi
 obtain⟨w',h1,h2⟩:=Qh (P:=P) (t:=t) (ts:=#[t,t2]) (ty:=ty) U hk (hs.dE hf.out) y
 refine⟨.tuple #[],w',by simp[aU,resolve,invoke,builtin,e1,e2,h1],?_⟩
 exact h hb _ _ he h2
end
section
variable{P:aT}
theorem L7{args:ar aR}{Q:aR->Y bG->Prop}{l m:ab}{xs:Y au}(h:TR P G f args (dp RB 1 (qw a c l 1) ((xs.drop l).take m)::A) (dC Q))(hQ:∀v B,Q v B->tS B)(hn:n=xs.length)(hlm:l+m<=n)(qn:n<=c):
 TR P G f args (own e 1 a n c (xs.map gT)::A) (dC λv B=>∃B',Q v B'/\B=own e 1 a n c (xs.map gT)::B'):=by
 rw[lP]
 refine nG (cC:=λx=>[gT x]) (h.eY ?_ (λe B hB=>⟨B,hB,bS.refl _⟩)) hQ hn (λ_=>rfl)
 rintro r o ⟨o1,o2,hd,h1,h2,hp,ir⟩
 refine⟨gI,o2,ef _,dQ _,h2,λr' pg=>?_,ir⟩
 exact(hp r' pg).cut (decide (c=l)) bw fD
end
end
section
variable{x:aY}{sz bl o t:ab}
section
variable{P:aT}{vs:Y (ab×aR)}{rest:Y aW}
theorem eT{α:Type}{cC:α->Y aR}{n:ab}{y:α}[ht:TA P t aP][hz:jH P t n](hw:bO ops vs ⟨aN d,.load t x,ty,pos,af,g⟩=aN aP)(hn:bM d N=aP)(hx:fI vs x=aN (.pointer (aN ⟨bl,o,aO⟩)))[hf:Fj H bl (cy cC) sz o y](hv:(cC y).length=n)(h:X P b O (aN (ops,rest)) k ⟨N,(d,.agg (cC y).toArray)::vs,ds⟩ H R):X P b O (aN (ops,⟨aN d,.load t x,ty,pos,af,g⟩::rest)) k ⟨N,vs,ds⟩ H R:=
 X.val U hn hw (λa w he hs=>by
  have e1:=bU he hx;obtain⟨rr,hr⟩:=hf.out;obtain⟨l',h1,h2,h3⟩:=Sat.ro (hs.dE hr);have Qc:l'=cC y:=h3;subst Qc;have hg:=jZ (P:=P) (w:=w) ht.out;have h5:=run_loadCells_list (P:=P) w ⟨bl,o,aO⟩ (cC y) (λj v hj=>by rw[addr_add];exact h2.cell hj);rw[hv]at h5;simp[aU,e1,jP,gh,loadVar,hg,jR hz.out,h5]) h
theorem qP{α:Type}{cC:α->Y aR}{o':ab}{y:α}{v:aR}[ht:TA P t aQ](hw:bO ops vs ⟨aN d,.load t x,ty,pos,af,g⟩=aN aP)(hn:bM d N=aP)(hx:fI vs x=aN (.pointer (aN ⟨bl,o',aO⟩)))[hf:Fj H bl (cy cC) sz o y](i:ab)(ho:o'=o+i)(hv:(cC y)[i]?=aN v)(h:X P b O (aN (ops,rest)) k ⟨N,(d,v)::vs,ds⟩ H R):X P b O (aN (ops,⟨aN d,.load t x,ty,pos,af,g⟩::rest)) k ⟨N,vs,ds⟩ H R:=
 X.val U hn hw (λa w he hs=>by
  have e1:=bU he hx;obtain⟨rr,hr⟩:=hf.out;obtain⟨l',h1,h2,h3⟩:=Sat.ro (hs.dE hr);have Qc:l'=cC y:=h3;subst Qc;subst ho;have h4:=h2.cell hv;have hg:=jZ (P:=P) (w:=w) ht.out;simp[aU,e1,jP,gh,loadVar,hg,h4]) h
end
class XD(P:aT)(t:ab)(n e:ay ab):Prop where out:P.underlying t=aN (.array n e)
theorem D4.sub{r:Hp}{b i:ab}{l m:Y aR}(h:D4 r b o l)(hm:∀(j:ab) (v:aR),m[j]?=aN v->l[i+j]?=aN v):D4 r b (o+i) m:=by
 obtain⟨cs,ty,fr,h1,h2⟩:=h;exact⟨cs,ty,fr,h1,λj v hj=>by grind⟩
section
variable{P:aT}{vs:Y (ab×aR)}{rest:Y aW}
theorem Aa{e n j:ab}{i:aY}{kk:IntKind}{m:ae}[ht:XD P t n e][hz:jH P e sz](hw:bO ops vs ⟨aN d,.indexAddr t x i,ty,pos,af,g⟩=aN aP)(hn:bM d N=aP)(hx:fI vs x=aN (.pointer (aN ⟨bl,o,aO⟩)))(hi:fI vs i=aN (.int kk m))(hm:m=(j:ae))(hj:j<n)(h:X P b O (aN (ops,rest)) k ⟨N,(d,.pointer (aN ⟨bl,o+j*sz,aO⟩))::vs,ds⟩ H R):
 X P b O (aN (ops,⟨aN d,.indexAddr t x i,ty,pos,af,g⟩::rest)) k ⟨N,vs,ds⟩ H R:=
 X.val U hn hw (λact w he hs=>by
  have e1:=bU he hx;have e2:=bU he hi;subst hm;simp[aU,e1,e2,Instr.indexAt,asIntOf,cI ht.out,jR hz.out,hj,addr_add,gh]) h
theorem X8{e n l h:ab}{low high:ah aY}[ht:XD P t n e][hz:jH P e sz](hw:bO ops vs ⟨aN d,.slice t x low high aO,ty,pos,af,g⟩=aN aP)(hn:bM d N=aP)(hx:fI vs x=aN (.pointer (aN ⟨bl,o,aO⟩)))(hl:Bd vs 0 low l)(hh:Bd vs n high h)(h1:l<=h)(h2:h<=n)(h3:l<n)(hk:X P b O (aN (ops,rest)) k ⟨N,(d,.slice (aN ⟨bl,o+l*sz,aO⟩) (h - l) (n - l))::vs,ds⟩ H R):
 X P b O (aN (ops,⟨aN d,.slice t x low high aO,ty,pos,af,g⟩::rest)) k ⟨N,vs,ds⟩ H R:=
 X.val U hn hw (λact w he hs=>by
  have e1:=bU he hx;have e3:=pD (P:=P) (w:=w) he (isS:=aQ) (cap:=n) hl hh h1 h2;have h4:¬n=l:=bw;simp[aU,e1,Instr.sliceAt,cI ht.out,e3,jR hz.out,gh,addr_add,h4]) hk
theorem Mh(gb o:ab)(l:Y aR)(hA:D4 O.r gb o l){cc:ah (ar aW×Y aW)}{E:Env}(h:X P b O cc k E (el (cy λ_:aA=>l) l.length gb o ()::H) R):X P b O cc k E H R:=
 j9 λw hs=>by
  refine⟨_,?_,h⟩;obtain⟨r,o',h0,hft,ir,qK⟩:=hs;exact⟨r,o',h0,hft,⟨gI,o',ef _,dQ _,.refl _,λr' pg=>⟨l,U,(hA.mono (h0.trans pg)),U⟩,ir⟩,qK⟩
theorem bk6{α:Type}{Re:Rp α}{cc:ah (ar aW×Y aW)}{E:Env}(bl:ab)(l:ab){xs:Y α}[hf:BQ H (aN ⟨bl,0,aO⟩) Re sz xs](hl:l<=xs.length)(h:X P b O cc k E (dp Re sz (aN ⟨bl,l*sz,aO⟩) (xs.drop l)::H) R):X P b O cc k E H R:=by
 obtain⟨rest,hr⟩:=hf.out
 refine X.dE (js hr λr h3=>?_) h
 have:=h3.cut (l:=l) (n:=xs.length - l) aQ bw dW
 grind [bI,addr_add]
end
end
end Go.Sl
namespace Go.Sl
open Go.RowKit
variable{O:de}{H:Y bG}{b:bc}{R:aZ->Y bG->Prop}{k:Kt}{N d ty:ab}{ds:Y Deferred}{ops:ar aW}{pos:aC}{af:ar Edge}{g:ah (ab×ai)}{E:Env}{cc:ah (ar aW×Y aW)}{w:aV}{G:dA}{α:Type}
section
variable{x:aY}{t t':ab}{u v:aR}
class TIf(P:aT)(t:ab):Prop where out:∃ms,P.underlying t=aN (.interface ms)
class QN(P:aT)(t:ab):Prop where out:P.concrete t=aP
def bI1:aR->ai
 |.nilIface=>aP
 |.iface _ _=>aP
 |_=>aQ
def bq9:aR->ai
 |.nilIface=>aP
 |_=>aQ
section
variable{P:aT}{vs:Y (ab×aR)}{rest:Y aW}
theorem rN[ht:QN P t](hw:bO ops vs ⟨aN d,.makeInterface t x,ty,pos,af,g⟩=aN aP)(hn:bM d N=aP)(hx:fI vs x=aN u)(h:X P b O (aN (ops,rest)) k ⟨N,(d,.iface t u)::vs,ds⟩ H R):X P b O (aN (ops,⟨aN d,.makeInterface t x,ty,pos,af,g⟩::rest)) k ⟨N,vs,ds⟩ H R:=
 X.val U hn hw (λa w he _=>by
  have e1:=bU he hx;simp[aU,e1,run_makeInterface _ t u ht.out]) h
theorem mO{op:BinOp}[ht:TIf P t](hw:bO ops vs ⟨aN d,.binOp op t x (.const .nilIface) t',ty,pos,af,g⟩=aN aP)(hn:bM d N=aP)(hx:fI vs x=aN u)(hi:bI1 u=aP)(hv:(match op with|.eql=>aN (lx (bq9 u))|.neq=>aN (lx (!bq9 u))|_=>aO)=aN v)(h:X P b O (aN (ops,rest)) k ⟨N,(d,v)::vs,ds⟩ H R):X P b O (aN (ops,⟨aN d,.binOp op t x (.const .nilIface) t',ty,pos,af,g⟩::rest)) k ⟨N,vs,ds⟩ H R:=
 X.val U hn hw (λa w he _=>by
  have e1:=bU he hx;have e2:a.eval (.const .nilIface)=.nilIface:=U;obtain⟨ms,Ik⟩:=ht.out;obtain⟨n,hn⟩:=sW;cases op<;>simp only[gR,reduceCtorEq]at hv;all_goals
   subst hv
   cases u<;>simp only[bI1,di]at hi
   all_goals simp[aU,e1,e2,eqGuard,binOp,hn,gq,cI Ik,bq9]) h
theorem X2{y:aY}{m n:ai}[ht:bo8 P t](hw:bO ops vs ⟨aN d,.binOp .eql t x y t',ty,pos,af,g⟩=aN aP)(hn:bM d N=aP)(hx:fI vs x=aN (.bool m))(hy:fI vs y=aN (.bool n))(h:X P b O (aN (ops,rest)) k ⟨N,(d,.bool (m==n))::vs,ds⟩ H R):X P b O (aN (ops,⟨aN d,.binOp .eql t x y t',ty,pos,af,g⟩::rest)) k ⟨N,vs,ds⟩ H R:=
 X.val U hn hw (λa w he _=>by
  have e1:=bU he hx;have e2:=bU he hy;obtain⟨n',hn'⟩:=sW;simp[aU,e1,e2,eqGuard,binOp,hn',gq,cI ht.out]) h
theorem P0{tx:ab}{y:aY}{kk q:IntKind}{m n:ae}[ht:TIf P t][hx':vA P tx q](hc:(P.info? tx).map (·.comparable)=aN aP)(hw:bO ops vs ⟨aN d,.binOp .eql t x y t',ty,pos,af,g⟩=aN aP)(hn:bM d N=aP)(hx:fI vs x=aN (.iface tx (.int kk m)))(hy:fI vs y=aN (.iface tx (.int kk n)))(h:X P b O (aN (ops,rest)) k ⟨N,(d,.bool (m==n))::vs,ds⟩ H R):X P b O (aN (ops,⟨aN d,.binOp .eql t x y t',ty,pos,af,g⟩::rest)) k ⟨N,vs,ds⟩ H R:=
 X.val U hn hw (λa w he _=>by
  have e1:=bU he hx;have e2:=bU he hy;obtain⟨ms,Ik⟩:=ht.out;have h1:=Lib.run_eql_iface_int (P:=P) w m n (k:=kk) Ik hc hx'.out;simp[aU,e1,e2,eqGuard,h1]) h
end
theorem Sat.below{O:de}{H:Y bG}{w w':aV}(h:Sat O H w)(hq:O.q=aQ)(hb:Below w.heap.size w w'):Sat O H w':=by
 obtain⟨r,o,h0,hf,ir,qK⟩:=h;have key:∀{q:Hp},Hp.le q (hp w)->Hp.le q (hp w'):=by
  intro q hq n z hn;have h3:=hq _ _ hn;have h4:=hb.block n (Mt h3);exact Yz
 exact⟨r,o,h0,⟨key hf.r,key hf.o,key hf.f,hf.ro,hf.rf,hf.of⟩,ir,qK.trans ⟨hb.os,hb.tape,hb.output,hb.size,λh=>by grind⟩⟩
theorem TR.below{P:aT}{G:dA}(hq:G.q=aQ){f:FuncId}{args:ar aR}(h:∀w,Calls P f args w λe w'=>e=.returned v/\Below w.heap.size w w')(A:Y bG:=[]):TR P G f args A (dX v):=
 λO w hG hs=>(h w).mono λe w' ⟨h1,h2⟩=>by subst h1;exact⟨[],⟨U,U⟩,(hs.below (by cases hb:O.q with|false=>rfl|true=>have:=hG.2 hb;grind) h2).dE (bS.nil _)⟩
end
end Go.Sl
namespace Go.Sl
variable{O:de}{H:Y bG}{b:bc}{R:aZ->Y bG->Prop}{k:Kt}{N d ty:ab}{ds:Y Deferred}{ops:ar aW}{pos:aC}{af:ar Edge}{g:ah (ab×ai)}{E:Env}{cc:ah (ar aW×Y aW)}{w:aV}{G:dA}{α:Type}
section
variable{K:Type}{xs:Y aR}{rs F:Y bG}{t bl st sz i:ab}{x:aY}{v z:aR}(j:ab)
section
variable{cC:α->Y aR}{sz:ab}
theorem zm(lV:∀x,(cC x).length=sz):∀xs:Y α,(xs.flatMap cC).length=xs.length*sz
 |[]=>by simp
 |x::r=>by rw[ei,bK,lV,zm lV r,bL,ic];omega
theorem AQ(lV:∀x,(cC x).length=sz):∀(xs:Y α) (j:ab),(xs.flatMap cC).take (j*sz)=(xs.take j).flatMap cC
 |[],j=>by simp
 |x::r,0=>by simp
 |x::r,j+1=>by
  rw[ei,gK,ei,List.take_append,lV,<-AQ lV r j];rw[show(j+1)*sz - sz=j*sz from by rw[ic];omega,bI (by rw[lV,ic];omega)]
theorem Ez(lV:∀x,(cC x).length=sz):∀(xs:Y α) (j:ab),(xs.flatMap cC).drop (j*sz)=(xs.drop j).flatMap cC
 |[],j=>by simp
 |x::r,0=>by simp
 |x::r,j+1=>by
  rw[ei,List.drop_succ_cons,List.drop_append,lV,<-Ez lV r j];rw[show(j+1)*sz - sz=j*sz from by rw[ic];omega,cx (by rw[lV,ic];omega),bk]
theorem TB(lV:∀x,(cC x).length=sz)(xs:Y α)(j:ab)(h:j<xs.length):((xs.flatMap cC).drop (j*sz)).take sz=cC xs[j]:=by
 grind [Ez,bP]
theorem ZW(lV:∀x,(cC x).length=sz)(xs:Y α)(j:ab)(h:j<xs.length)(y:α):
 (xs.flatMap cC).take (j*sz)++cC y++(xs.flatMap cC).drop (j*sz+(cC y).length)=(xs.set j y).flatMap cC:=by
 rw[lV,show j*sz+sz=(j+1)*sz from by grind,AQ lV,Ez lV,List.set_eq_take_append_cons_drop,ao h]
 simp
end
section
variable{P:aT}{vs:Y (ab×aR)}{rest:Y aW}
theorem ja{α:Type}{cC:α->Y aR}{l:Y α}{e n c o:ab}[ht:TA P t aP][hz:jH P t sz](hw:bO ops vs ⟨aN d,.load t x,ty,pos,af,g⟩=aN aP)(hn:bM d N=aP)(hx:fI vs x=aN (.pointer (aN ⟨bl,o,aO⟩)))[hf:FO H (aN ⟨bl,0,aO⟩) e sz n c xs rs](KH:xs=l.flatMap cC)(lV:∀x,(cC x).length=sz)(ho:o=j*sz)(hj:j<l.length)(h:X P b O (aN (ops,rest)) k ⟨N,(d,.agg (cC l[j]).toArray)::vs,ds⟩ H R):X P b O (aN (ops,⟨aN d,.load t x,ty,pos,af,g⟩::rest)) k ⟨N,vs,ds⟩ H R:=by
 subst ho KH
 exact PM hw hn hx (lV _) (TB lV l j hj) h
theorem tg{α:Type}{cC:α->Y aR}{l:Y α}(i:ab){e n c o:ab}[ht:TA P t aQ](hw:bO ops vs ⟨aN d,.load t x,ty,pos,af,g⟩=aN aP)(hn:bM d N=aP)(hx:fI vs x=aN (.pointer (aN ⟨bl,o,aO⟩)))[hf:FO H (aN ⟨bl,0,aO⟩) e sz n c xs rs](KH:xs=l.flatMap cC)(lV:∀x,(cC x).length=sz)(ho:o=j*sz+i)(hj:j<l.length)(hv:(cC l[j])[i]?=aN v)(h:X P b O (aN (ops,rest)) k ⟨N,(d,v)::vs,ds⟩ H R):X P b O (aN (ops,⟨aN d,.load t x,ty,pos,af,g⟩::rest)) k ⟨N,vs,ds⟩ H R:=by
 subst ho KH
 refine X.jK hw hn hx ?_ h
 have h1:=TB lV l j hj
 grind
theorem pA[hk:Kt.pC k]{α:Type}{cC:α->Y aR}{l:Y α}(y:α){e n c o:ab}{z:aY}[hz:jH P t sz](hw:bO ops vs ⟨aO,.store t x z,ty,pos,af,g⟩=aN aP)(hx:fI vs x=aN (.pointer (aN ⟨bl,o,aO⟩)))(hy:fI vs z=aN v)[hf:FO H (aN ⟨bl,0,aO⟩) e sz n c xs rs](KH:xs=l.flatMap cC)(lV:∀x,(cC x).length=sz)(ho:o=j*sz)(hj:j<l.length)(hl:cl v=aN (cC y))(h2:nY (cC y)=aP)(h:X P b O (aN (ops,rest)) k ⟨N,vs,ds⟩ (own e sz (aN ⟨bl,0,aO⟩) n c ((l.set j y).flatMap cC)::rs) R):X P b O (aN (ops,⟨aO,.store t x z,ty,pos,af,g⟩::rest)) k ⟨N,vs,ds⟩ H R:=by
 subst ho KH
 refine Mn hw hx hy hl (lV y) h2 ?_ ?_
 ·rw[lV,zm lV]
  have:(j+1)*sz<=l.length*sz:=eB _ hj
  grind
 ·rw[ZW lV l j hj y];exact h
end
def mpS{K:Type}(cC:K->aR)(b:ab)(M:Y (K×aR))(i st:ab):bG:=
 ⟨λ_ o=>∃es oH e,o b=aN (.map es oH)/\es.toList.map (λe=>(e.key,e.val))=M.map (λp=>(cC p.1,p.2))/\(es.toList.map (λe:MapEntry=>e.born)).Nodup/\(∀e∈es.toList,e.born<oH)/\es.toList[i]?=aN e/\e.born=st,
  λ_ ho ⟨es,oH,e,h1,h2⟩=>⟨es,oH,e,ho _ _ h1,h2⟩⟩
class FMS(H:Y bG)(b:ab){K:ay Type}(cC:ay (K->aR))(M:ay (Y (K×aR)))(i st:ay ab)(rest:ay (Y bG)):Prop where out:bS H (mpS cC b M i st::rest)
instance FMS.here{K:Type}(cC:K->aR)(b:ab)(M:Y (K×aR))(i st:ab)(H:Y bG):FMS (mpS cC b M i st::H) b cC M i st H:=⟨bS.refl _⟩
theorem Mm{O:de}{H:Y bG}{w:aV}{cC:K->aR}{b:ab}{M:Y (K×aR)}(h:Sat O (mpS cC b M i st::H) w):
 ∃es oH e,es.toList.map (λe=>(e.key,e.val))=M.map (λp=>(cC p.1,p.2))/\(es.toList.map (·.born)).Nodup/\(∀e∈es.toList,e.born<oH)/\es.toList[i]?=aN e/\e.born=st/\Sat O (Sl.pt b (.map es oH)::H) w:=by
 obtain⟨r,o,h0,hf,⟨o1,o2,hd,h1,h2,⟨es,oH,e,hx,g1,g2,g3,g4,g5⟩,ir⟩,qK⟩:=h
 exact⟨es,oH,e,g1,g2,g3,g4,g5,r,o,h0,hf,⟨o1,o2,hd,h1,h2,hx,ir⟩,qK⟩
theorem E4{O:de}{H:Y bG}{w:aV}{cC:K->aR}{b:ab}{M:Y (K×aR)}{es:ar MapEntry}{oH:ab}{e:MapEntry}(h:Sat O (Sl.pt b (.map es oH)::H) w)(g1:es.toList.map (λe=>(e.key,e.val))=M.map (λp=>(cC p.1,p.2)))(g2:(es.toList.map (·.born)).Nodup)(g3:∀e∈es.toList,e.born<oH)(g4:es.toList[i]?=aN e)(g5:e.born=st):Sat O (mpS cC b M i st::H) w:=by
 obtain⟨r,o,h0,hf,⟨o1,o2,hd,h1,h2,hx,ir⟩,qK⟩:=h
 exact⟨r,o,h0,hf,⟨o1,o2,hd,h1,h2,⟨es,oH,e,hx,g1,g2,g3,g4,g5⟩,ir⟩,qK⟩
theorem K0{l:Y MapEntry}(hn:(l.map (·.born)).Nodup){j:ab}{e0:MapEntry}(h:l[j]?=aN e0):l.findIdx? (λe=>((e.born:ab):ae)==((e0.born:ab):ae))=aN j:=by
 induction l generalizing j<;>grind
theorem No(xs:ar MapEntry)(p:MapEntry->ai):xs.findIdx? p=xs.toList.findIdx? p:=by
 cases xs;simp
section
variable {P:aT}{w:aV}{kt et:ab}{K:Type}[aG K]{cC:K->aR}
theorem Vq{O:de}{H:Y bG}{b:ab}{M:Y (K×aR)}[ht:zV P t kt et](hk:Keyed P kt cC)(h:Sat O (mp cC b M::H) w)(x:K)(hz:∀w,(zeroValue et).run P w=.ok z w):
 ∃w' i st,(Instr.mapEntry t (.map (aN b)) (cC x)).run P w=.ok (.tuple #[(gM M x).getD z,.int .i64 (st:ab)]) w'/\(iT M x ((gM M x).getD z)).findIdx? (·.1=x)=aN i/\Sat O (mpS cC b (iT M x ((gM M x).getD z)) i st::H) w':=by
 obtain⟨o,⟨es,oH,rfl,h1,h2,h3⟩,hs⟩:=Sat.map h
 have hb:=fF hs
 have hf:=wh (P:=P) (w:=w) h1 hk x
 rw[wi h1]at hf
 have hlen:es.size=M.length:=bI2
 cases hi:M.findIdx? (·.1=x)with
 |none=>
  rw[hi]at hf;have hg:gM M x=aO:=by rw[Et,hi];rfl
  rw[hg,Option.getD_none,nr hi];refine⟨{w with heap:=w.heap.setIfInBounds b (.map (es.push {key:=cC x,val:=z,born:=oH}) (oH+1))},M.length,oH,?_,?_,?_⟩
  ·simp only[Instr.mapEntry,cb,cI ht.out,bJ,getObj,gz,hb,hk.check,hf,Option.bind_none,setObj,hz,db];rfl
  ·rw[List.findIdx?_append,hi];simp
  ·refine E4 (e:={key:=cC x,val:=z,born:=oH}) (Sat.setObj hs) ?_ ?_ ?_ ?_ U
   ·simp[h1]
   ·simp only[Array.toList_push,dx,bN,jo];rw[fN];refine⟨h2,by simp,?_⟩;intro a ha c hc;simp at hc;obtain⟨e,he,rfl⟩:=cu.1 ha;have:=h3 e he;omega
   ·intro e he;simp at he;rcases he with he|rfl
    ·have:=h3 e QO;omega
    ·simp
   ·rw[Array.toList_push,<-hlen,List.getElem?_append_right dW];simp
 |some i=>
  rw[hi]at hf;have PB:i<M.length:=(cA.1 hi).1;have hie:i<es.size:=bw;have Qg:M[i]?=aN M[i]:=bX PB;have B7:M[i].1=x:=a03;have hej:es[i]?=aN es[i]:=Array.getElem?_eq_getElem hie;have vR:=aH (λl=>l[i]?) h1;simp only[eX,Qg,eE,hej,cO,gR,Prod.mk.injEq]at vR;have hg:gM M x=aN M[i].2:=by rw[Et,hi];simp[Qg]
  have ZX:iT M x M[i].2=M:=by
   rw[np hi];apply fq;intro j;rw[List.getElem?_set];by_cases Av:i=j
   ·subst Av;rw[ao U,ao PB,Qg,<-B7]
   ·rw[aj Av]
  simp only[Option.bind_some,Qg,cO]at hf;rw[hg,dz,ZX];have hsame:(es.modify i λe=>{e with key:=cC x})=es:=by
   apply Array.ext_getElem?;intro j;rw[fW];by_cases Av:i=j
   ·subst Av;rw[ao U,hej,cO];congr 1;have:es[i].key=cC x:=by rw[vR.1,B7]
    rw[<-this]
   ·rw[aj Av]
  refine⟨{w with heap:=w.heap.setIfInBounds b (.map es oH)},i,es[i].born,?_,hi,?_⟩
  ·simp only[Instr.mapEntry,cb,cI ht.out,bJ,getObj,gz,hb,hk.check,hf,hej,cO,dz,vR.1,B7,hk.same,hsame,setObj,db];rfl
  ·exact E4 (e:=es[i]) (Sat.setObj hs) h1 h2 h3 (by rw[eE];exact hej) U
theorem FY{O:de}{H:Y bG}{b:ab}{M:Y (K×aR)}{x:K}(hi:M.findIdx? (·.1=x)=aN i)(h:Sat O (mpS cC b M i st::H) w)(v:aR):
 ∃w',(Instr.entryStore t (.map (aN b)) (.int .i64 st) v).run P w=.ok () w'/\Sat O (mp cC b (iT M x v)::H) w':=by
 obtain⟨es,oH,e,h1,h2,h3,h4,h5,hs⟩:=Mm h
 have hb:=fF hs
 have hlen:es.size=M.length:=bI2
 have PB:i<M.length:=(cA.1 hi).1
 have hie:i<es.size:=bw
 have Qg:M[i]?=aN M[i]:=bX PB
 have B7:M[i].1=x:=a03
 have vR:=aH (λl=>l[i]?) h1
 simp only[eX,Qg,h4,cO,gR,Prod.mk.injEq]at vR
 have hidx:es.findIdx? (λe=>(e.born:ae)==((st:ab):ae))=aN i:=by
  rw[No,<-h5];exact K0 h2 h4
 refine⟨{w with heap:=w.heap.setIfInBounds b (.map (es.modify i λe=>{e with val:=v}) oH)},?_,?_⟩
 ·simp only[Instr.entryStore,cb,bJ,getObj,gz,hb,asInt,asIntOf,db,hidx,setObj]
 ·rw[np hi];refine om (Sat.setObj hs) ⟨_,_,U,?_,?_,?_⟩
  ·apply fq;intro j;have h6:=aH (λl=>l[j]?) h1;simp only[eX,eE]at h6 ⊢;rw[fW,List.getElem?_set];by_cases Av:i=j
   ·subst Av;rw[eE]at h4;simp[PB,h4,vR.1,B7]
   ·simp[Av,h6]
  ·have:(es.modify i λe=>{e with val:=v}).toList.map (·.born)=es.toList.map (·.born):=by
    apply fq;intro j;simp only[eX,eE];rw[fW];by_cases Av:i=j
    ·subst Av;simp[Function.comp_def]
    ·simp[Av]
   rw[this];exact h2
  ·intro e he;obtain⟨j,hj⟩:=List.getElem?_of_mem he;rw[eE,fW]at hj;by_cases Av:i=j
   ·subst Av;simp only[if_true]at hj;obtain⟨e',Ib,rfl⟩:=cz.1 hj;exact h3 e' (by have:=Array.mem_of_getElem? Ib;simpa using this)
   ·simp only[Av,aI]at hj;exact h3 e (by have:=Array.mem_of_getElem? hj;simpa using this)
theorem mr(M:Y (K×aR))(x:K)(v v':aR):iT (iT M x v) x v'=iT M x v':=by
 cases hi:M.findIdx? (·.1=x)with
 |none=>
  rw[nr hi,nr hi];have:(M++[(x,v)]).findIdx? (·.1=x)=aN M.length:=bQ;rw[np this];simp
 |some i=>
  have PB:i<M.length:=(cA.1 hi).1;rw[np hi,np hi];have:(M.set i (x,v)).findIdx? (·.1=x)=aN i:=by
   grind [cA]
  rw[np this,List.set_set]
end
section
variable{P:aT}{vs:Y (ab×aR)}{rest:Y aW}
theorem EV[hkk:Kt.pC k][aG K]{cC:K->aR}{kt et:ab}{m i:aY}{M:Y (K×aR)}(y:K)[ht:zV P t kt et][hz:ze P et z][hf:FM H bl cC M F](hk:Keyed P kt cC)(hw:bO ops vs ⟨aN d,.mapEntry t m i,ty,pos,af,g⟩=aN aP)(hn:bM d N=aP)(hm:fI vs m=aN (.map (aN bl)))(hi:fI vs i=aN (cC y))(h:∀j st,(iT M y ((gM M y).getD z)).findIdx? (·.1=y)=aN j->X P b O (aN (ops,rest)) k ⟨N,(d,.tuple #[(gM M y).getD z,.int .i64 (st:ab)])::vs,ds⟩ (mpS cC bl (iT M y ((gM M y).getD z)) j st::F) R):
 X P b O (aN (ops,⟨aN d,.mapEntry t m i,ty,pos,af,g⟩::rest)) k ⟨N,vs,ds⟩ H R:=
 mN (ι:={q:ab×ab // (iT M y ((gM M y).getD z)).findIdx? (·.1=y)=aN q.1}) (v:=λq=>.tuple #[(gM M y).getD z,.int .i64 (q.1.2:ab)]) (Hs':=λq=>mpS cC bl (iT M y ((gM M y).getD z)) q.1.1 q.1.2::F) U hn hw (λa w he hs=>by
  have e1:=bU he hm;have e2:=bU he hi;obtain⟨w',j,st,h1,h2,h3⟩:=Vq (P:=P) (t:=t) hk (hs.dE hf.out) y hz.run;exact⟨⟨(j,st),h2⟩,w',by grind [aU,cb,bJ,db],h3⟩) λq=>h q.1.1 q.1.2 q.2
theorem yM[hkk:Kt.pC k][aG K]{cC:K->aR}{j:ab}{m i:aY}{M:Y (K×aR)}(y:K)[hf:FMS H bl cC M j st F](hj:M.findIdx? (·.1=y)=aN j)(hw:bO ops vs ⟨aO,.entryStore t m i x,ty,pos,af,g⟩=aN aP)(hm:fI vs m=aN (.map (aN bl)))(hi:fI vs i=aN (.int .i64 (st:ab)))(hx:fI vs x=aN v)(h:X P b O (aN (ops,rest)) k ⟨N,vs,ds⟩ (mp cC bl (iT M y v)::F) R):
 X P b O (aN (ops,⟨aO,.entryStore t m i x,ty,pos,af,g⟩::rest)) k ⟨N,vs,ds⟩ H R:=
 Mp U hw (λa w he hs=>by
  have e1:=bU he hm;have e2:=bU he hi;have e3:=bU he hx;obtain⟨w',h1,h2⟩:=FY (P:=P) (t:=t) hj (hs.dE hf.out) v;exact⟨w',by simp[aU,e1,e2,e3,h1],h2⟩) h
end
end
end Go.Sl
namespace Go.Sl
def rmp{K:Type}(cC:K->aR)(b:ab)(M:Y (K×aR)):bG:=ro λr=>∃x,r b=aN x/\KD cC M x
class FRM(H:Y bG)(b:ab){K:ay Type}(cC:ay (K->aR))(M:ay (Y (K×aR))):Prop where out:∃F,bS H (rmp cC b M::F)
instance FRM.here{K:Type}(cC:K->aR)(b:ab)(M:Y (K×aR))(H:Y bG):FRM (rmp cC b M::H) b cC M:=⟨H,bS.refl _⟩
instance(priority:=low) FRM.there(p:bG)(H:Y bG)(b:ab){K:Type}(cC:K->aR)(M:Y (K×aR))[h:FRM H b cC M]:FRM (p::H) b cC M:=
 let⟨F,hr⟩:=h.out;⟨p::F,(bS.cons p hr).trans (eo _ _ _)⟩
section
variable {P:aT}{b:bc}{O:de}{k:Kt}{N:ab}{vs:Y (ab×aR)}{ds:Y Deferred}{H:Y bG}{R:aZ->Y bG->Prop}{ops:ar aW}{rest:Y aW}
variable {d ty:ab}{pos:aC}{af:ar Edge}{g:ah (ab×ai)}
theorem Dy{w:aV}{K:Type}[aG K]{cC:K->aR}{bl t kt et:ab}{M:Y (K×aR)}[ht:zV P t kt et](hk:Keyed P kt cC){o:Obj}(hb:w.heap[bl]?=aN o)(hm:KD cC M o)(x:K)(z:aR)
 (hz:gM M x=aO->(zeroValue et).run P w=.ok z w)(ok:ai):
 (Instr.lookup t (.map (aN bl)) (cC x) ok).run P w=.ok (if ok then .tuple #[(gM M x).getD z,.bool (gM M x).isSome]else(gM M x).getD z) w:=by
 obtain⟨es,oH,rfl,h1,h2,h3⟩:=hm
 have BR:=wh (P:=P) (w:=w) h1 hk x
 rw[wi h1]at BR
 rw[Et]at hz ⊢
 cases hi:M.findIdx? (·.1=x)with
 |none=>
  rw[hi]at hz BR
  have hz:=hz U
  simp only[Option.bind_none]at BR
  simp only[Instr.lookup,cb,cI ht.out,bJ,getObj,gz,hb,hk.check,BR,hz,db]
  grind
 |some i=>
  have PB:i<M.length:=(cA.1 hi).1
  have Qg:M[i]?=aN M[i]:=bX PB
  rw[hi]at BR
  simp only[Option.bind_some,Qg,cO]at BR ⊢
  simp only[Instr.lookup,cb,cI ht.out,bJ,getObj,gz,hb,hk.check,BR,db]
  grind
theorem Yr{t kt et bl:ab}{x i:aY}{M:Y (Y au×aR)}{zv:aR}(y:Y au)[ht:zV P t kt et][hs:qm P kt][hz:ze P et zv][hf:FRM H bl bn M]
 (hw:bO ops vs ⟨aN d,.lookup t x i aQ,ty,pos,af,g⟩=aN aP)(hn:bM d N=aP)(hx:fI vs x=aN (.map (aN bl)))(hi:fI vs i=aN (bn y))
 (h:X P b O (aN (ops,rest)) k ⟨N,(d,(gM M y).getD zv)::vs,ds⟩ H R):
 X P b O (aN (ops,⟨aN d,.lookup t x i aQ,ty,pos,af,g⟩::rest)) k ⟨N,vs,ds⟩ H R:=
 X.val U hn hw (λa w he oP=>by
  have e1:=bU he hx;have e2:=bU he hi;obtain⟨F,hF⟩:=hf.out;obtain⟨o,ho,hm⟩:=Sat.ro (oP.dE hF);simp only[aU,e1,e2,cb,Dy (kt:=kt) (et:=et) dy ho hm y zv (λ_=>hz.run w) aQ,bJ,db];simp) h
end
section
variable {P:aT}{b:bc}{O:de}{k:Kt}{N:ab}{vs:Y (ab×aR)}{ds:Y Deferred}{H:Y bG}{R:aZ->Y bG->Prop}{ops:ar aW}{rest:Y aW}
variable {d ty:ab}{pos:aC}{af:ar Edge}{g:ah (ab×ai)}
theorem BU{K:Type}[aG K]{cC:K->aR}{t kt et bl ii st:ab}{x i:aY}{M:Y (K×aR)}{F:Y bG}{zv:aR}(y:K)[ht:zV P t kt et][hf:FMS H bl cC M ii st F](hk:Keyed P kt cC)
 (hw:bO ops vs ⟨aN d,.lookup t x i aQ,ty,pos,af,g⟩=aN aP)(hn:bM d N=aP)(hx:fI vs x=aN (.map (aN bl)))(hi:fI vs i=aN (cC y))
 (hz:∀w,(zeroValue et).run P w=.ok zv w)
 (h:X P b O (aN (ops,rest)) k ⟨N,(d,(gM M y).getD zv)::vs,ds⟩ H R):
 X P b O (aN (ops,⟨aN d,.lookup t x i aQ,ty,pos,af,g⟩::rest)) k ⟨N,vs,ds⟩ H R:=
 X.val U hn hw (λa w he hs=>by
  have e1:=bU he hx;have e2:=bU he hi;obtain⟨es,oH,e,g1,g2,g3,g4,g5,h2⟩:=Mm (hs.dE hf.out);simp only[aU,e1,e2,cb,Dy (kt:=kt) (et:=et) hk (fF h2) ⟨es,oH,U,g1,g2,g3⟩ y zv (λ_=>hz w) aQ,bJ,db];simp) h
end
theorem Ms{P:aT}{G:dA}{f:FuncId}{args:ar aR}{A:Y bG}{Q:aR->Y bG->Prop}{K:Type}{cC:K->aR}{bl:ab}{M:Y (K×aR)}(h:TR P G f args (rmp cC bl M::A) (dC Q))(hQ:∀v B,Q v B->tS B){x:Obj}(hx:KD cC M x):
 TR P G f args (pt bl x::A) (dC λv B=>∃B',Q v B'/\B=pt bl x::B'):=
 S1 (b:=bl) (x:=x) (h.eY (λr o ⟨o1,o2,hd,h1,h2,hp,hs⟩=>⟨o1,o2,hd,h1,h2,λr' pg=>⟨x,hp r' pg,hx⟩,hs⟩) λe B hB=>⟨B,hB,bS.refl _⟩) hQ
end Go.Sl
namespace Go.Sl
theorem MP.KD{K:Type}{cC:K->aR}{M S:Y (K×aR)}{lJ:ah (K×aR)}{i:Qn}(h:MP cC M S lJ i):Go.Sl.KD cC M (.map i.es i.oH):=by
 obtain⟨h1,h2,h3,h4,h5,_⟩:=h;refine⟨i.es,i.oH,U,?_,h2,λe he=>Nat.lt_of_lt_of_le (h3 e he) h5⟩;exact h1
section
variable {P:aT}{b:bc}{O:de}{k:Kt}{E:Env}{H:Y bG}{R:aZ->Y bG->Prop}{cc:ah (ar aW×Y aW)}
theorem bo1{K:Type}{cC:K->aR}(r:ab){bl:ab}{M S:Y (K×aR)}{lJ:ah (K×aR)}{F:Y bG}[hf:FRg H r cC bl M S lJ F]
 (h:∀i,MP cC M S lJ i->X P b O cc k E (pt bl (.map i.es i.oH)::pt r (.mapIter (aN bl) i.since i.seen i.c0)::F) R):X P b O cc k E H R:=
 j9 λw hs=>by
  obtain⟨i,hp,h2⟩:=Ad (hs.dE hf.out);exact⟨_,h2.dE (eo _ _ _),h i hp⟩
theorem bk7{K:Type}{cC:K->aR}(r bl:ab){M S:Y (K×aR)}{lJ:ah (K×aR)}{i:Qn}(hp:MP cC M S lJ i){F:Y bG}[hE:ES H [pt r (.mapIter (aN bl) i.since i.seen i.c0),pt bl (.map i.es i.oH)] F]
 (h:X P b O cc k E (If cC r bl M S lJ::F) R):X P b O cc k E H R:=
 j9 λw hs=>⟨_,xk i hp (hs.dE hE.out),h⟩
end
section
variable {K:Type}[aG K]
theorem tZ(M:Y (K×aR))(x:K)(v:aR):(iT M x v).map (·.1)=if x∈M.map (·.1)then M.map (·.1)else M.map (·.1)++[x]:=by
 cases hi:M.findIdx? (·.1=x)with
 |none=>
  grind [nr]
 |some i=>
  have PB:i<M.length:=(cA.1 hi).1
  have B7:M[i].1=x:=by
   grind [cA]
  rw[np hi,ao bQ,fL]
  apply fq
  grind
theorem AR(M:Y (K×aR))(x y:K)(v:aR):y∈(iT M x v).map (·.1)↔y∈M.map (·.1)\/y=x:=by
 grind [tZ]
theorem uO{M:Y (K×aR)}(h:(M.map (·.1)).Nodup)(x:K)(v:aR):((iT M x v).map (·.1)).Nodup:=by
 grind [tZ]
theorem rJ{M:Y (K×aR)}{p:aR->Prop}(h:∀y∈M,p y.2){x:K}{v:aR}(hv:p v):∀y∈iT M x v,p y.2:=by
 intro y hy;cases hi:M.findIdx? (·.1=x)with
 |none=>
  grind [nr]
 |some i=>
  rw[np hi]at hy
  grind
theorem Vr{M:Y (K×aR)}{p:aR->Prop}(h:∀y∈M,p y.2){x:K}{z:aR}(hz:p z):p ((gM M x).getD z):=by
 unfold gM;cases hf:M.find? (·.1=x)<;>grind
end
end Go.Sl
namespace Go.Sl
variable{O:de}{H:Y bG}{b:bc}{R:aZ->Y bG->Prop}{k:Kt}{N d ty:ab}{ds:Y Deferred}{ops:ar aW}{pos:aC}{af:ar Edge}{g:ah (ab×ai)}{E:Env}{cc:ah (ar aW×Y aW)}{w:aV}{G:dA}{α:Type}
section
variable{rs:Y ResultVar}{x y:aY}{sz f0 t e n f c f1:ab}{a:ah aX}{xs us l cs cap:Y aR}{F A:Y bG}{sU:ar TypeId}{kk:IntKind}{v:aR}{m:ae}
section
variable{P:aT}{vs:Y (ab×aR)}{rest:Y aW}
theorem bB5{l h m:ab}{z u:aY}{k1 k2 k3:IntKind}{my mz mu:ae}[ht:qQ P t e][hz:jH P e sz](hw:bO ops vs ⟨aN d,.slice t x (aN y) (aN z) (aN u),ty,pos,af,g⟩=aN aP)(hn:bM d N=aP)(hx:fI vs x=aN (.slice a n c))(hy:fI vs y=aN (.int k1 my))(hz':fI vs z=aN (.int k2 mz))(hu:fI vs u=aN (.int k3 mu))(e1:my=(l:ae))(e2:mz=(h:ae))(e3:mu=(m:ae))(h1:l<=h)(h2:h<=m)(h3:m<=c)(hk:∀v,X P b O (aN (ops,rest)) k ⟨N,(d,v)::vs,ds⟩ H R):X P b O (aN (ops,⟨aN d,.slice t x (aN y) (aN z) (aN u),ty,pos,af,g⟩::rest)) k ⟨N,vs,ds⟩ H R:=by
 refine X.val (v:=.slice (if decide (m=l)=aP then a else a.map (·.add (l*sz))) (h - l) (m - l)) U hn hw (λact w he hs=>?_) (hk _)
 have f1:=bU he hx
 have f2:=bU he hy
 have f3:=bU he hz'
 have f4:=bU he hu
 subst e1;subst e2;subst e3
 have hb:(iA aP n c (aN (.int k1 (l:ae))) (aN (.int k2 (h:ae))) (aN (.int k3 (m:ae)))).run P w=.ok (l,h,m) w:=by
  simp[iA,run_sliceBound h3,run_sliceBound h2,run_sliceBound h1]
 simp[aU,f1,f2,f3,f4,Instr.sliceAt,Instr.slice,cI ht.out,hb,jR hz.out]
theorem Yl[hk:Kt.pC k]{Di i j gg c2:ab}{rs:Y bG}[ht:qQ P t e][hz:jH P e sz][Xw:Ap P e Di](hw:bO ops vs ⟨aN d,.call ⟨.builtin .append,#[x,y],#[t,t]⟩,ty,pos,af,g⟩=aN aP)(hn:bM d N=aP)(hx:fI vs x=aN (.slice (aN ⟨gg,0,aO⟩) i c))(hy:fI vs y=aN (.slice (qw (aN ⟨gg,0,aO⟩) c j sz) (n - j) c2))[ho:FO H (aN ⟨gg,0,aO⟩) e sz n c xs rs](Av:i<=j)(PG:j<=n)(h1:∀v∈xs,v.oneCell'=aP)(h:X P b O (aN (ops,rest)) k ⟨N,(d,.slice (aN ⟨gg,0,aO⟩) (i+(n - j)) c)::vs,ds⟩ (own e sz (aN ⟨gg,0,aO⟩) (i+(n - j)) c (xs.take (i*sz)++xs.drop (j*sz))::rs) R):
 X P b O (aN (ops,⟨aN d,.call ⟨.builtin .append,#[x,y],#[t,t]⟩,ty,pos,af,g⟩::rest)) k ⟨N,vs,ds⟩ H R:=
 E9 U hn hw (λact w he oP=>by
  have e1:=bU he hx;have e2:=bU he hy;obtain⟨inf,hi,Ar⟩:=cz.1 hz.out;subst Ar;rcases eR (oP.dE ho.out)with⟨h0,_⟩|⟨g',cur,h2,h3,h6,h7,h8,h9,hs⟩
  ·cases h0
  ·cases h2;have hlen:cur.toList.length=cur.size:=dW;have Xz:(xs.drop (j*inf.size)).length=(n - j)*inf.size:=by grind [Nat.sub_mul]
   have hg:=fF hs;have hmul:∀p q:ab,p<=q->p*inf.size<=q*inf.size:=λp q hpq=>eB _ hpq;have m1:=hmul (i+(n - j)) n bw;have m2:=hmul n c h6;have m3:=hmul i n bw;have Dj:∀(q:ab) (u:aR),(xs.drop (j*inf.size))[q]?=aN u->∃ad,qw (aN ⟨gg,0,aO⟩) c j inf.size=aN ad/\w.cell? (ad.add q)=aN u:=by
    grind [qw,addr_add,gl]
   obtain⟨ad,had⟩:∃ad,qw (aN ⟨gg,0,aO⟩) c j inf.size=aN ad:=by
    grind [qw]
   have hr:=run_append_room (P:=P) (ty:=ty) w t e inf ht.out hi gg i c cur hg ad (n - j) c2 (xs.drop (j*inf.size)) Xz (λq u hq=>by
    grind) (λu hu=>h1 u (List.mem_of_mem_drop hu)) bw bQ
   rw[had]at e2;refine⟨_,by simp only[aU,resolve,invoke,builtin,e1,e2,List.map_toArray,bN,jo,cb,hr,bJ,db];first|rfl|simp[hr],?_⟩;have xz:cur.toList.take (i*inf.size)=xs.take (i*inf.size):=bQ;refine gY (Sat.setRow hs) ?_ bw h7 ?_ ?_;all_goals grind [bI]) h
theorem X0[hk:Kt.pC k]{m c2:ab}{zs:Y aR}{rs:Y bG}[ht:qQ P t e][hz:jH P e sz][Qd:TZ P e zs](hw:bO ops vs ⟨aO,.call ⟨.builtin .clear,#[x],#[t]⟩,ty,pos,af,g⟩=aN aP)(hx:fI vs x=aN (.slice (qw a c n sz) m c2))[ho:FO H a e sz n c xs rs](hm:n+m<=c)(D5:zs.length=sz)(h1:∀v∈zs,v.oneCell'=aP)(h:X P b O (aN (ops,rest)) k ⟨N,vs,ds⟩ (own e sz a n c xs::rs) R):
 X P b O (aN (ops,⟨aO,.call ⟨.builtin .clear,#[x],#[t]⟩,ty,pos,af,g⟩::rest)) k ⟨N,vs,ds⟩ H R:=by
 intro hb
 refine X.op hw (λact w he oP=>?_) hb
 have e1:=bU he hx
 have ZV:=oP.dE ho.out
 have key:∀w',(Builtin.clear_ #[t] ty #[.slice (qw a c n sz) m c2]).run P w=.ok (.tuple #[]) w'->Sat O (own e sz a n c xs::rs) w'->∃v wa,(aU act.eval ⟨aO,.call ⟨.builtin .clear,#[x],#[t]⟩,ty,pos,af,g⟩).run P w=.ok (.value v) wa/\WL P b O ops k R rest (act.put (Oper.dst ⟨aO,.call ⟨.builtin .clear,#[x],#[t]⟩,ty,pos,af,g⟩) v) wa:=by
  intro w' h2 h3;exact⟨.tuple #[],w',by simp[aU,resolve,invoke,builtin,e1,h2],h hb _ _ he h3⟩
 by_cases hm0:m=0
 ·subst hm0;refine key w ?_ ZV;cases qw a c n sz<;>simp[Builtin.clear_,cI ht.out]
 ·rcases eR ZV with⟨rfl,rfl,rfl,_⟩|⟨gg,cur,rfl,h3,h6,h7,h8,h9,hs⟩
  ·omega
  ·have hcut:qw (aN ⟨gg,0,aO⟩) c n sz=aN ⟨gg,n*sz,aO⟩:=by
    unfold qw;rw[aj fD];simp[addr_add]
   obtain⟨z,HX,hz2⟩:=wg (P:=P) (w:=w) Qd.out;have hzc:z.cells.size=sz:=by rw[<-D5,hz2];simp
   have hzl2:(Builtin.zeroCells z.cells m).toList.length=m*sz:=by simp[size_zeroCells,hzc]
   have kN:∀v∈(Builtin.zeroCells z.cells m).toList,v.oneCell'=aP:=by
    intro v hv;unfold Builtin.zeroCells at hv;simp only[Array.toList_map,cu]at hv;obtain⟨i,hi,rfl⟩:=hv;by_cases ZV:sz=0
    ·rw[hzc,ZV]at hi;simp at hi
    ·have vz:i%z.cells.size<z.cells.size:=Nat.mod_lt _ (by rw[hzc];omega);rw[getElem!_pos z.cells (i%z.cells.size) vz];refine h1 _ ?_;have h11:z.cells[i%z.cells.size]∈z.cells:=Array.getElem_mem vz;have h12:∀v,v∈z.cells->v∈zs:=λv hv=>by rw[hz2]at hv;simpa using hv
     exact h12 _ h11
   have mm:n*sz+m*sz<=cur.size:=by
    rw[<-ic];exact bo (eB _ hm) h8
   have ir:=run_storeCells_at P gg (n*sz) e (Builtin.zeroCells z.cells m).toList 0 cur w (fF hs) (by rw[hzl2];omega) kN;simp only[Nat.add_zero]at ir;rw[hcut]at key;refine key (w.setRow gg (cur.toList.take (n*sz)++(Builtin.zeroCells z.cells m).toList++cur.toList.drop (n*sz+(Builtin.zeroCells z.cells m).toList.length)).toArray) ?_ ?_
   ·obtain⟨m',rfl⟩:∃m',m=m'+1:=⟨m - 1,by omega⟩;simp[Builtin.clear_,cI ht.out,HX,ir]
   ·have hlen:cur.toList.length=cur.size:=dW;have e3:(cur.toList.take (n*sz)).length=n*sz:=by rw[dG,hlen];omega
    refine gY (Sat.setRow hs) h3 h6 h7 ?_ ?_
    ·simp only[eW,bK,dG,List.length_drop,hlen,hzl2];rw[Nat.min_eq_left bw];omega
    ·show((cur.toList.take (n*sz)++(Builtin.zeroCells z.cells m).toList)++cur.toList.drop (n*sz+(Builtin.zeroCells z.cells m).toList.length)).take (n*sz)=xs;rw[cB,List.take_append_of_le_length (by rw[e3];exact bz _),List.take_take,Nat.min_self,h9]
end
abbrev WB(α:Type):=α×ah aX×ab
def eQ{α:Type}(data:α->Y au)(q:Y (WB α)):bG:=
 ro λr=>∀x∈q,(data x.1).length<=x.2.2/\(x.2.1=aO->(data x.1).length=0/\x.2.2=0)/\xm RB 1 x.2.1 (data x.1) r
def RD{α:Type}(data:α->Y au)(cC:WB α->Y aR):Rp α:=
 ⟨λr l x=>∃a c,l=cC (x,a,c)/\((data x).length<=c/\(a=aO->(data x).length=0/\c=0)/\xm RB 1 a (data x) r),λhr ⟨a,c,h1,h2,h3,h4⟩=>⟨a,c,h1,h2,h3,h4.mono hr⟩⟩
class TC(H:Y bG){α:Type}(data:α->Y au)(q:Y (WB α)):Prop where out:∃F,bS H (eQ data q::F)
instance TC.here{α:Type}(data:α->Y au)(q:Y (WB α))(H:Y bG):TC (eQ data q::H) data q:=⟨H,bS.refl _⟩
instance(priority:=low) TC.there(p:bG)(H:Y bG){α:Type}(data:α->Y au)(q:Y (WB α))[h:TC H data q]:TC (p::H) data q:=
 let⟨F,hr⟩:=h.out;⟨p::F,(bS.cons p hr).trans (eo _ _ _)⟩
section
variable{P:aT}
variable{data:α->Y au}{cC:WB α->Y aR}{sz:ab}
theorem nH(q:Y (WB α))(x:WB α)(hx:x∈q)[hf:TC H data q]
 (h:(data x.1).length<=x.2.2->(x.2.1=aO->(data x.1).length=0/\x.2.2=0)->X P b O cc k E (dp RB 1 x.2.1 (data x.1)::H) R):X P b O cc k E H R:=by
 obtain⟨F,hF⟩:=hf.out
 refine j9 λw hs=>?_
 have h1:=Sat.ro (hs.dE hF) x hx
 refine⟨_,hs.dE (js (q:=Go.Sl.xm RB 1 x.2.1 (data x.1)) hF (λr hr=>(hr x hx).2.2)),h h1.1 h1.2.1⟩
theorem qW(q q':Y (WB α))(hq:∀x∈q',x∈q)[hf:TC H data q](h:X P b O cc k E (eQ data q'::H) R):X P b O cc k E H R:=by
 obtain⟨F,hF⟩:=hf.out;exact X.dE (js hF λr hr x hx=>hr x (hq x hx)) h
theorem S3(data:α->Y au)(h:X P b O cc k E (eQ data []::H) R):X P b O cc k E H R:=
 X.dE (Hs':=eQ data []::H) (λ_ o hs=>⟨gI,o,ef _,dQ _,.refl _,λ_ _ x hx=>vE,hs⟩) h
theorem SY(q:Y (WB α))(y:WB α)(h1:(data y.1).length<=y.2.2)(h2:y.2.1=aO->(data y.1).length=0/\y.2.2=0)[hf:TC H data q][hs:BQ H y.2.1 RB 1 (data y.1)]
 (h:X P b O cc k E (eQ data (y::q)::H) R):X P b O cc k E H R:=by
 obtain⟨F,hF⟩:=hf.out
 obtain⟨F2,hF2⟩:=hs.out
 refine X.dE ?_ h
 intro r o hh
 obtain⟨o1,o2,_,_,_,l6,_⟩:=hF r o hh
 obtain⟨o3,o4,_,_,_,vo,_⟩:=hF2 r o hh
 refine⟨gI,o,ef _,dQ _,.refl _,λr' pg x hx=>?_,hh⟩
 rcases cW.1 hx with rfl|hx
 ·exact⟨h1,h2,vo r' pg⟩
 ·exact l6 r' pg x hx
theorem Ak(q q2:Y (WB α))[hf:TC H data q][hs:TC H data q2](h:X P b O cc k E (eQ data (q++q2)::H) R):X P b O cc k E H R:=by
 obtain⟨F,hF⟩:=hf.out;obtain⟨F2,hF2⟩:=hs.out;refine X.dE ?_ h;intro r o hh;obtain⟨o1,o2,_,_,_,l6,_⟩:=hF r o hh;obtain⟨o3,o4,_,_,_,vo,_⟩:=hF2 r o hh;exact a04
theorem bB6(data:α->Y au)(cC:WB α->Y aR)(a:ah aX){q:Y (WB α)}[hf:BQ H a (cy cC) sz q][hs:TC H data q]
 (h:X P b O cc k E (dp (RD data cC) sz a (q.map (·.1))::H) R):X P b O cc k E H R:=by
 obtain⟨F,hF⟩:=hf.out
 obtain⟨F2,hF2⟩:=hs.out
 refine X.dE ?_ h
 intro r o hh
 obtain⟨o1,o2,_,_,_,l6,_⟩:=hF r o hh
 obtain⟨o3,o4,_,_,_,vo,_⟩:=hF2 r o hh
 refine⟨gI,o,ef _,dQ _,.refl _,λr' pg=>?_,hh⟩
 rcases l6 r' pg with h1|⟨bl,o5,h1,h2⟩
 ·exact .inl (by rw[h1];rfl)
 ·refine .inr ⟨bl,o5,h1,λi x hx=>?_⟩;rw[eX]at hx;obtain⟨y,hy,rfl⟩:=cz.1 hx;obtain⟨l,h3,h4,h5⟩:=h2 i y hy;exact⟨l,h3,h4,y.2.1,y.2.2,h5,vo r' pg y (List.mem_of_getElem? hy)⟩
end
section
variable{P:aT}{vs:Y (ab×aR)}{rest:Y aW}
theorem X9{j:ab}{i:aY}[ht:XD P t n e][hz:jH P e sz][ha:TA P e aP](hw:bO ops vs ⟨aN d,.index t x i,ty,pos,af,g⟩=aN aP)(hn:bM d N=aP)(hx:fI vs x=aN (.agg cs.toArray))(hi:fI vs i=aN (.int kk m))(hm:m=(j:ae))(hj:j<n)(hl:Mw (j*sz) sz cs=aN l)(h:X P b O (aN (ops,rest)) k ⟨N,(d,.agg l.toArray)::vs,ds⟩ H R):
 X P b O (aN (ops,⟨aN d,.index t x i,ty,pos,af,g⟩::rest)) k ⟨N,vs,ds⟩ H R:=
 X.val U hn hw (λact w he hs=>by
  have e1:=bU he hx;have e2:=bU he hi;subst hm;obtain⟨h7,h8⟩:=Er hl;have e3:(cs.drop (j*sz)).take sz=l:=by
   apply fq
   grind
  simp[aU,e1,e2,Instr.index,asIntOf,cI ht.out,jR hz.out,hj,part,jZ ha.out,List.extract,e3]) h
theorem bm2{j:ab}{i:aY}[ht:XD P t n e][hz:jH P e sz][ha:TA P e aQ](hw:bO ops vs ⟨aN d,.index t x i,ty,pos,af,g⟩=aN aP)(hn:bM d N=aP)(hx:fI vs x=aN (.agg cs.toArray))(hi:fI vs i=aN (.int kk m))(hm:m=(j:ae))(hj:j<n)(hl:cs[j*sz]?=aN v)(h:X P b O (aN (ops,rest)) k ⟨N,(d,v)::vs,ds⟩ H R):
 X P b O (aN (ops,⟨aN d,.index t x i,ty,pos,af,g⟩::rest)) k ⟨N,vs,ds⟩ H R:=
 X.val U hn hw (λact w he hs=>by
  have e1:=bU he hx;have e2:=bU he hi;subst hm;have e3:cs.toArray[j*sz]?=aN v:=bQ;have e4:=e3;simp only[List.getElem?_toArray]at e4;simp[aU,e1,e2,Instr.index,asIntOf,cI ht.out,jR hz.out,hj,part,jZ ha.out,e4]) h
theorem EX{l h:ab}{low high:ah aY}[ht:qQ P t e][hz:jH P e sz](hw:bO ops vs ⟨aN d,.slice t x low high aO,ty,pos,af,g⟩=aN aP)(hn:bM d N=aP)(hx:fI vs x=aN (.slice a n c))(hl:Bd vs 0 low l)(hh:Bd vs n high h)(h1:l<=h)(h2:h<=c)(hk:X P b O (aN (ops,rest)) k ⟨N,(d,.slice (qw a c l sz) (h - l) (c - l))::vs,ds⟩ H R):X P b O (aN (ops,⟨aN d,.slice t x low high aO,ty,pos,af,g⟩::rest)) k ⟨N,vs,ds⟩ H R:=by
 refine X.val (v:=.slice (qw a c l sz) (h - l) (c - l)) U hn hw (λact w he hs=>?_) hk
 have e1:=bU he hx
 have e3:=pD (P:=P) (w:=w) he (isS:=aP) (cap:=c) hl hh h1 h2
 simp[aU,e1,Instr.sliceAt,Instr.slice,cI ht.out,e3,jR hz.out,qw]
end
theorem br1(a:ah aX)(c sz:ab):qw a c 0 sz=a:=by
 unfold qw;split
 ·rfl
 ·rw[Nat.zero_mul];cases a<;>grind [Addr.add]
theorem aC5{α:Type}{cC:α->Y aR}(lV:∀x,(cC x).length=sz)(xs:Y α)(j i:ab)(h:j<xs.length)(hi:i<sz)(y:α)(v:aR)(hy:cC y=(cC xs[j]).set i v):
 (xs.flatMap cC).take (j*sz+i)++[v]++(xs.flatMap cC).drop (j*sz+i+1)=(xs.set j y).flatMap cC:=by
 rw[<-ZW lV xs j h y,hy]
 have hl:=zm lV xs
 have h1:(j+1)*sz<=xs.length*sz:=eB _ h
 have h2:(j+1)*sz=j*sz+sz:=bQ
 have L0:=TB lV xs j h
 have Ia:=lV xs[j]
 rw[fJ,Ia]
 have e0:(xs.flatMap cC).drop (j*sz)=cC xs[j]++(xs.flatMap cC).drop (j*sz+sz):=by
  grind [dV,List.drop_drop]
 have e1:(xs.flatMap cC).take (j*sz+i)=(xs.flatMap cC).take (j*sz)++(cC xs[j]).take i:=by
  rw[List.take_add,e0,List.take_append_of_le_length bw]
 have e2:(xs.flatMap cC).drop (j*sz+i+1)=(cC xs[j]).drop (i+1)++(xs.flatMap cC).drop (j*sz+sz):=by
  rw[Nat.add_assoc,<-List.drop_drop,e0,List.drop_append_of_le_length bw]
 grind [List.set_eq_take_append_cons_drop]
section
variable{P:aT}{vs:Y (ab×aR)}{rest:Y aW}
theorem E3[hk:Kt.pC k]{α:Type}{cC:α->Y aR}{l:Y α}(j i:ab)(y:α){bl o:ab}{z:aY}{rs:Y bG}(hl:∀h:j<l.length,cC y=(cC l[j]).set i v)[hz:jH P t 1](hw:bO ops vs ⟨aO,.store t x z,ty,pos,af,g⟩=aN aP)(hx:fI vs x=aN (.pointer (aN ⟨bl,o,aO⟩)))(hy:fI vs z=aN v)[hf:FO H (aN ⟨bl,0,aO⟩) e sz n c xs rs](KH:xs=l.flatMap cC)(lV:∀x,(cC x).length=sz)(ho:o=j*sz+i)(hj:j<l.length)(hi:i<sz)(hc:cl v=aN [v])(h2:nY [v]=aP)(h:X P b O (aN (ops,rest)) k ⟨N,vs,ds⟩ (own e sz (aN ⟨bl,0,aO⟩) n c ((l.set j y).flatMap cC)::rs) R):X P b O (aN (ops,⟨aO,.store t x z,ty,pos,af,g⟩::rest)) k ⟨N,vs,ds⟩ H R:=by
 subst KH ho
 have vF:=zm lV l
 have h1:(j+1)*sz<=l.length*sz:=eB _ hj
 have h3:(j+1)*sz=j*sz+sz:=bQ
 refine Mn hw hx hy hc U h2 bQ ?_
 rw[List.length_singleton,aC5 lV l j i hj hi y v (hl hj)]
 exact h
theorem bD6{t':ab}{m n:ai}[ht:bo8 P t](hw:bO ops vs ⟨aN d,.binOp .neq t x y t',ty,pos,af,g⟩=aN aP)(hn:bM d N=aP)(hx:fI vs x=aN (.bool m))(hy:fI vs y=aN (.bool n))(h:X P b O (aN (ops,rest)) k ⟨N,(d,.bool (m !=n))::vs,ds⟩ H R):X P b O (aN (ops,⟨aN d,.binOp .neq t x y t',ty,pos,af,g⟩::rest)) k ⟨N,vs,ds⟩ H R:=
 X.val U hn hw (λa w he _=>by
  have e1:=bU he hx;have e2:=bU he hy;obtain⟨n',hn'⟩:=sW;simp[aU,e1,e2,eqGuard,binOp,hn',gq,cI ht.out];grind) h
theorem XO{parts:Y (ab×aY)}{us:Y (ab×aR)}{zs:Y aR}[hf:XD P t n e][hz:TZ P t zs][zW:jH P e sz](hw:bO ops vs ⟨aN d,.build t parts.toArray,ty,pos,af,g⟩=aN aP)(hn:bM d N=aP)(hx:xo vs parts=aN us)(hl:IN (λi=>aN (i*sz,sz)) zs us=aN l)(h:X P b O (aN (ops,rest)) k ⟨N,(d,.agg l.toArray)::vs,ds⟩ H R):X P b O (aN (ops,⟨aN d,.build t parts.toArray,ty,pos,af,g⟩::rest)) k ⟨N,vs,ds⟩ H R:=
 X.val U hn hw (λa w he _=>by
  have e1:=uF he hx;obtain⟨z,h3,h4⟩:=wg (P:=P) (w:=w) hz.out;have h5:=As hl;have e2:parts.toArray.map (fun(i,x)=>(i,a.eval x))=us.toArray:=bQ;simp only[aU,e2,Instr.build,cb,h3,bJ,db,cI hf.out,jR zW.out,h4,h5]) h
end
section
variable{P:aT}
theorem Db{α γ:Type}{data:α->Y au}(a05:γ->Y au)(q:Y (WB α))(q':Y (WB γ))(hq:∀y∈q',∃x∈q,∃n,y.2=x.2/\a05 y.1=(data x.1).take n)[hf:TC H data q](h:X P b O cc k E (eQ a05 q'::H) R):X P b O cc k E H R:=by
 obtain⟨F,hF⟩:=hf.out
 refine X.dE (js hF λr hr y hy=>?_) h
 obtain⟨x,hx,n,h1,h2⟩:=hq y hy
 obtain⟨h3,h4,h5⟩:=hr x hx
 rw[h1,h2]
 have hle:((data x.1).take n).length<=(data x.1).length:=bQ
 refine⟨by omega,λhh=>⟨by grind,(h4 hh).2⟩,?_⟩
 by_cases hn:n<=(data x.1).length
 ·have:=xm.cut (l:=0) (n:=n) aQ h5 bw bQ
  rw[aj eK,gx,Nat.zero_mul]at this
  have e:x.2.1.map (·.add 0)=x.2.1:=by cases x.2.1<;>simp[Addr.add]
  grind
 grind [bI]
end
class EM(H A:Y bG)(F:ay (Y bG)):Prop where out:bS H (A++F)
instance EM.nil(H:Y bG):EM H [] H:=⟨bS.refl _⟩
theorem EM.jM{H r:Y bG}{p:Hp->Prop}(h1:bS H (ro p::r))(h2:bS H (A++F)):bS H (ro p::A++F):=by
 intro rr o hs;obtain⟨o1,o2,_,_,_,hp,_⟩:=h1 rr o hs;exact⟨gI,o,ef _,dQ _,.refl _,hp,h2 rr o hs⟩
instance(priority:=2000) EM.dp{α:Type}(H A r F:Y bG)(Re:Rp α)(sz:ab)(a:ah aX)(xs:Y α)[h1:FP H (dp Re sz a xs) r][h2:EM H A F]:EM H (dp Re sz a xs::A) F:=⟨EM.jM h1.out h2.out⟩
instance(priority:=2000) EM.rob{α:Type}(H A r F:Y bG)(data:α->Y au)(q:Y (WB α))[h1:FP H (eQ data q) r][h2:EM H A F]:EM H (eQ data q::A) F:=⟨EM.jM h1.out h2.out⟩
instance(priority:=500) EM.cons(H Hs':Y bG)(p:bG)(A F:Y bG)[h1:FP H p Hs'][h2:EM Hs' A F]:EM H (p::A) F:=⟨h1.out.trans (bS.cons p h2.out)⟩
theorem eC{H:Y bG}[h:EM H A F]:bS H (A++F):=h.out
instance EK.rob{α:Type}(H A r:Y bG)(data:α->Y au)(q:Y (WB α))[h1:FP H (eQ data q) r][h2:EK H A]:EK H (eQ data q::A):=
 EK.ro H A r _ (h1:=h1)
abbrev pe(v:aR):PanicEntry:={v,recovered:=aQ}
def MR{ε α:Type}(pv:ε->aR)(r:aB ε α)(Q:α->aR->Y bG->Prop):aZ->Y bG->Prop
 |.returned v,B=>∃x,r=.ok x/\Q x v B
 |.panicked ch,B=>∃e,r=.error e/\ch=[pe (pv e)]/\B=[]
 |.outgrown,_=>False
section
variable{P:aT}{vs:Y (ab×aR)}{rest:Y aW}
theorem Mo(nA:nL b f0)[hf:FR P f0 rs](hb:b.kind=.normal){ch:Y PanicEntry}{a:Act}{w:aV}{W:ab->Prop}(hd:a.defers=[])(h:wc O R (.panicked ch) w):PD P b O W R ch a w:=by
 obtain⟨fn,h1,_⟩:=hf.out;intro a' _ hd' _;exact UE nA.ro Yy hb (hd'.trans hd) h
theorem fC[hk:Kt.pC k]{G:dA}(hG:G.on O)(nA:nL b f0)[hf:FR P f0 rs]{xs:Y aY}{ε α:Type}{pv:ε->aR}{r:aB ε α}{Q:α->aR->Y bG->Prop}(hT:TR P G f us.toArray A (MR pv r Q))[uD:CF P f](hw:bO ops vs ⟨aN d,.call ⟨.value (.func f),xs.toArray,sU⟩,ty,pos,af,g⟩=aN aP)(hn:bM d N=aP)(hx:oO vs xs=aN us)(hA:bS H (A++F))(hp:∀e,r=.error e->R (.panicked [pe (pv e)]) [])(h:∀x,r=.ok x->∀v B,Q x v B->X P b O (aN (ops,rest)) k ⟨N,(d,v)::vs,[]⟩ (B++F) R):
 X P b O (aN (ops,⟨aN d,.call ⟨.value (.func f),xs.toArray,sU⟩,ty,pos,af,g⟩::rest)) k ⟨N,vs,[]⟩ H R:=by
 intro hb
 refine Aj hG uD hT hw hn (λa he w=>?_) hA ?_ (λ_ h=>h) ?_ hb
 ·have h1:=mg (E:=⟨N,vs,[]⟩) he hx
  have h2:xs.toArray.map a.eval=us.toArray:=br2
  have h3:a.eval (.func f)=.func (.func f) #[] #[]:=U
  grind [resolve,Deferred.ofValue,invoke]
 ·rintro ch B ⟨e,hr,rfl,rfl⟩ a w he hs;exact XU (Mo nA hb he.2.1 ⟨[],hp e hr,hs.dE (bS.nil _)⟩)
 ·exact ZY
theorem X4[hk:Kt.pC k](nA:nL b f0)[hf:FR P f0 rs]{dst:ah ab}(hw:bO ops vs ⟨dst,.panic x,ty,pos,af,g⟩=aN aP)(hx:fI vs x=aN v)(hv:∀w,(Instr.panic v).run P w=.halt (.panic v) w)(h:R (.panicked [pe v]) []):
 X P b O (aN (ops,⟨dst,.panic x,ty,pos,af,g⟩::rest)) k ⟨N,vs,[]⟩ H R:=by
 intro hb a w he hs
 have e1:=bU he hx
 have hr:(aU a.eval ⟨dst,.panic x,ty,pos,af,g⟩).run P w=.halt (.panic v) w:=by
  simp[aU,e1,hv]
 exact bn3 (lU (E:=⟨N,vs,[]⟩) he hw) hr (XU (Mo nA hb he.2.1 ⟨[],h,hs.dE (bS.nil _)⟩))
end
section
variable{P:aT}{vs:Y (ab×aR)}{rest:Y aW}
def TD0(P:aT)(G:dA)(f:FuncId)(args:ar aR)(A B:Y bG):Prop:=
 ∀(O:de) (w:aV),G.on O->Sat O A w->CallsD P f args .returning w λe u' w'=>u'=.returning/\(∃v,e=.returned v)/\Sat O B w'
def TP(P:aT)(G:dA)(f:FuncId)(args:ar aR)(pv:aR)(A B:Y bG):Prop:=
 ∀(O:de) (w:aV),G.on O->Sat O A w->CallsD P f args (.panicking [pe pv]) w λe u' w'=>u'=.panicking [{v:=pv,recovered:=aP}]/\(∃v,e=.returned v)/\Sat O B w'
theorem bm7{k:Y Item}(nA:nL b f)[hf:FR P f rs][uD:CF P f1]{B:Y bG}{G:dA}(hG:G.on O)(hT:TD0 P G f1 (us++cap).toArray A B)(hE:bS H (A++F))(hl:kK P ⟨N,vs,[⟨.fn (.func f1) cap.toArray,us.toArray⟩]⟩ (B++F) rs l)(h:∃C,R (.returned (mv l)) C/\bS (B++F) C):
 X P b O aO (.it (.code .ret::k)) ⟨N,vs,[⟨.fn (.func f1) cap.toArray,us.toArray⟩]⟩ H R:=by
 intro hb
 obtain⟨fn,h1,rfl⟩:=hf.out
 obtain⟨C,h2,h3⟩:=h
 refine SR.bE6 nA.ro Yy hb λa w he hs=>?_
 obtain⟨β',hβ,Ao,sT⟩:=mo (hs.dE hE)
 have hc:=hT β' w (G.mono hβ hG) Ao
 refine⟨by simp,.func f1,cap.toArray,f1,(us++cap).toArray,U,?_,?_⟩
 ·have:=uD.out (us++cap).toArray w
  grind [invoke]
 ·exact aU5
theorem SO{k:Y Item}(nA:nL b f)[hf:FR P f rs][uD:CF P f1]{G:dA}(hG:G.on O)(hT:TD0 P G f1 (us++cap).toArray [] [])(hl:kK P ⟨N,vs,[⟨.fn (.func f1) cap.toArray,us.toArray⟩]⟩ H rs l)(h:∃C,R (.returned (mv l)) C/\bS H C):
 X P b O aO (.it (.code .ret::k)) ⟨N,vs,[⟨.fn (.func f1) cap.toArray,us.toArray⟩]⟩ H R:=bm7 (A:=[]) (B:=[]) (F:=H) nA hG hT (bS.refl _) hl h
theorem v7{k:Y Item}{G:dA}(hG:G.on O)(nA:nL b f0)[hf:FR P f0 rs][hcf1:CF P f1]{us1 cap1:Y aR}{xs:Y aY}{ε α:Type}{pv:ε->aR}{r:aB ε α}{Q:α->aR->Y bG->Prop}(hT:TR P G f us.toArray A (MR pv r Q))[uD:CF P f](hw:bO ops vs ⟨aN d,.call ⟨.value (.func f),xs.toArray,sU⟩,ty,pos,af,g⟩=aN aP)(hn:bM d N=aP)(hx:oO vs xs=aN us)(hA:bS H (A++F))(hp:∀e,r=.error e->∃A1 B1 F1 l C,TP P G f1 (us1++cap1).toArray (pv e) A1 B1/\bS F (A1++F1)/\kK P ⟨N,vs,[⟨.fn (.func f1) cap1.toArray,us1.toArray⟩]⟩ B1 rs l/\R (.returned (mv l)) C/\bS B1 C)(h:∀x,r=.ok x->∀v B,Q x v B->X P b O (aN (ops,rest)) (.it k) ⟨N,(d,v)::vs,[⟨.fn (.func f1) cap1.toArray,us1.toArray⟩]⟩ (B++F) R):
 X P b O (aN (ops,⟨aN d,.call ⟨.value (.func f),xs.toArray,sU⟩,ty,pos,af,g⟩::rest)) (.it k) ⟨N,vs,[⟨.fn (.func f1) cap1.toArray,us1.toArray⟩]⟩ H R:=by
 intro hb
 refine Aj hG uD hT hw hn (λa he w=>?_) hA ?_ (λ_ h=>h) ?_ hb
 ·have h1:=mg (E:=⟨N,vs,[⟨.fn (.func f1) cap1.toArray,us1.toArray⟩]⟩) he hx
  have h2:xs.toArray.map a.eval=us.toArray:=br2
  have h3:a.eval (.func f)=.func (.func f) #[] #[]:=U
  grind [resolve,Deferred.ofValue,invoke]
 ·rintro ch B ⟨e,hr,rfl,rfl⟩ a w he hs;obtain⟨A1,B1,F1,l,C,h1,h2,h3,h4,h5⟩:=hp e hr;obtain⟨fn,g1,rfl⟩:=hf.out;have ZV:Sat O F w:=hs;obtain⟨β',hβ,Ao,sT⟩:=mo (ZV.dE h2);have hc:=h1 β' w (G.mono hβ hG) Ao;refine tm nA.ro (by rw[nA.fn];exact g1) hb ?_;rw[he.2.1];refine⟨by simp,.func f1,cap1.toArray,f1,(us1++cap1).toArray,U,?_,?_⟩
  ·have:=hcf1.out (us1++cap1).toArray w
   grind [invoke]
  ·refine hc.mono ?_;rintro e u' w' ⟨rfl,⟨v,rfl⟩,Fi⟩;have h6:Sat O B1 w':=(sT B1 w' Fi).dE (ia _ _);exact⟨_,oo (h3 O a w' he h6),⟨C,h4,h6.dE h5⟩⟩
 ·exact ZY
end
section
variable{P:aT}
theorem Al{E:Env}{cc:ah (ar aW×Y aW)}(m:ab)[hf:FO H a e sz n c xs F](hm:m<=n)(h:X P b O cc k E (own e sz a m c (xs.take (m*sz))::F) R):X P b O cc k E H R:=
 j9 λw hs=>by
  refine⟨_,?_,h⟩
  rcases eR (hs.dE hf.out)with⟨rfl,h0,rfl,rfl,vQ⟩|⟨g,cur,rfl,h3,h6,h7,h8,h9,vQ⟩
  ·subst h0
   grind [j6]
  grind [eB,gY]
end
end
section
variable{F rs:Y bG}{x y:aY}{t n e sz:ab}{l:Y au}{cap xs cs:Y aR}(i:ab)(a:ah aX)
section
variable{P:aT}{vs:Y (ab×aR)}{rest:Y aW}
theorem bm1{op:BinOp}{t' kt et:ab}{p:ah ab}{v:aR}[ht:zV P t kt et](hw:bO ops vs ⟨aN d,.binOp op t x y t',ty,pos,af,g⟩=aN aP)(hn:bM d N=aP)(hx:fI vs x=aN (.map p))(hy:fI vs y=aN (.map aO))(hv:(match op with|.eql=>aN (lx p.isNone)|.neq=>aN (lx p.isSome)|_=>aO)=aN v)(h:X P b O (aN (ops,rest)) k ⟨N,(d,v)::vs,ds⟩ H R):X P b O (aN (ops,⟨aN d,.binOp op t x y t',ty,pos,af,g⟩::rest)) k ⟨N,vs,ds⟩ H R:=
 X.val U hn hw (λa w he _=>by
  have e1:=bU he hx;have e2:=bU he hy;cases op<;>simp only[gR,reduceCtorEq]at hv;all_goals
   subst hv
   obtain⟨n,hn⟩:=sW
   cases p<;>simp[aU,e1,e2,eqGuard,binOp,hn,gq,cI ht.out]) h
theorem ax0{kt et:ab}[ht:zV P t kt et](hw:bO ops vs ⟨aN d,.call ⟨.builtin .len,#[x],#[t]⟩,ty,pos,af,g⟩=aN aP)(hn:bM d N=aP)(hx:fI vs x=aN (.map aO))(h:X P b O (aN (ops,rest)) k ⟨N,(d,.int .i64 0)::vs,ds⟩ H R):X P b O (aN (ops,⟨aN d,.call ⟨.builtin .len,#[x],#[t]⟩,ty,pos,af,g⟩::rest)) k ⟨N,vs,ds⟩ H R:=
 X.val U hn hw (λa w he hs=>by
  have e1:=bU he hx;simp[aU,resolve,invoke,builtin,e1,Builtin.len_,cI ht.out];rfl) h
end
section
variable{P:aT}
variable(f:α->bG)
theorem TE(q:Y α)(i:ab)(h:i<q.length):(q.map f).Perm (f q[i]::(q.eraseIdx i).map f):=by
 grind [List.eraseIdx_eq_take_drop_succ,bP,dV,gF]
theorem X6(q:Y α)(i:ab)(h:i<q.length)[hf:FP H (dZ (q.map f)) F](hx:X P b O cc k E (f q[i]::dZ ((q.eraseIdx i).map f)::F) R):X P b O cc k E H R:=
 X.dE (hf.out.trans ((iR _ F).trans ((je (ew (TE f q i h)) F).trans (bS.cons _ (iE _ F))))) hx
theorem UH(q:Y α)(i:ab)(h:i<q.length)(y:α)[hE:ES H [f y,dZ ((q.eraseIdx i).map f)] F](hx:X P b O cc k E (dZ ((q.set i y).map f)::F) R):X P b O cc k E H R:=by
 refine X.dE (hE.out.trans ?_) hx
 refine(bS.cons _ (iR _ F)).trans ?_
 show bS ((f y::(q.eraseIdx i).map f)++F) _
 refine bS.trans (je (ew (b:=(q.set i y).map f) ?_) F) (iE _ F)
 have h2:=TE f (q.set i y) i Au
 rw[List.getElem_set_self,List.eraseIdx_set_eq]at h2
 exact h2.symm
theorem bC7(q:Y α)(y:α)[hE:ES H [f y,dZ (q.map f)] F](hx:X P b O cc k E (dZ ((q++[y]).map f)::F) R):X P b O cc k E H R:=by
 refine X.dE (hE.out.trans ?_) hx
 refine(bS.cons _ (iR _ F)).trans ?_
 show bS ((f y::q.map f)++F) _
 refine bS.trans (je (ew (b:=(q++[y]).map f) ?_) F) (iE _ F)
 grind [cH]
end
section
variable{P:aT}
theorem Ys{α:Type}{cC:α->Y aR}(l:Y α){c:ab}[hf:FO H a e sz n c xs F](hx:xs=l.flatMap cC)(hn:n=l.length)(h:X P b O cc k E (own e sz a l.length c (l.flatMap cC)::F) R):X P b O cc k E H R:=by
 subst hx hn;exact X.dE hf.out h
end
def ITS(P:aT)(G:dA)(f:FuncId)(cap:Y aR)(A A2:Y bG){α:Type}(cC:α->Y aR)(xs:Y α):Prop:=
 ∀(l:ab) (I:Y α->Y bG) (J:Y bG),
  (∀pre x post,xs=pre++x::post->YT P G l (cC x).toArray (I pre) (dC (YQ (I (pre++[x])) J)))->
  TR P G f (.func (.yield l) #[] #[]::cap).toArray (A++I []) (dC λ_ B=>B=A2++I xs\/∃A3,B=A3++J)
theorem ITS.mk{P:aT}{G:dA}{f:FuncId}{A A2:Y bG}{α:Type}{cC:α->Y aR}{xs:Y α}(h:∀(l:ab) (I:Y α->bG) (J:bG),(∀pre x post,xs=pre++x::post->YT P G l (cC x).toArray [I pre] (dC (YQ [I (pre++[x])] [J])))->
  TR P G f (.func (.yield l) #[] #[]::cap).toArray (A++[I []]) (dC λ_ B=>B=A2++[I xs]\/∃A3,B=A3++[J])):ITS P G f cap A A2 cC xs:=by
 intro l I J hY
 refine(h l (λp=>dZ (I p)) (dZ J) λpre x post hx=>(hY pre x post hx).eY (gm _) ?_).eY (nI A (iS _)) ?_
 ·exact bp4
 ·rintro e B hB;cases e with
  |panicked ch=>exact hB.elim
  |outgrown=>exact hB.elim
  |returned v=>
   rcases hB with rfl|⟨A3,rfl⟩
   ·exact⟨_,.inl U,nI A2 (gm _)⟩
   ·exact⟨_,.inr ⟨A3,U⟩,nI A3 (gm _)⟩
section
variable{P:aT}{vs:Y (ab×aR)}
theorem II{G:dA}(hG:G.on O){f0:ab}(nA:nL b f0){f:ab}[uD:CF P f]{g:aY}{ps:Y ab}{b49 bd:Code}{k:Y Item}{α:Type}{cC:α->Y aR}{xs:Y α}{A A2 F1:Y bG}(hit:ITS P G f cap A A2 cC xs)(hg:fI vs g=aN (.func (.func f) #[] cap.toArray))(I:Y α->Y bG)(I0:Y bG)(h0:I0=I [])[hA1:ES H A F1][hA2:ES F1 I0 F](hl:∀x,ps.length=(cC x).length)(hp:∀p∈ps,bM p N=aP)(body:∀(b':bc) (β':de) (l:ab) (r:Loop) (pre:Y α) (x:α) (post:Y α),xs=pre++x::post->b'.roundOf=aN l->G.on β'->r.state=.ready->
  X P b' β' aO (.it [.code b49,.beginRound,.code bd]) ⟨N,AB ps (cC x) vs,[]⟩ (pt l (.loop r)::I pre) (dC (YQ (pt l (.loop {r with state:=.ready,pending:=aO})::I (pre++[x])) (pt l (.loop {r with state:=.done,pending:=aN .ret})::[pu False]))))(done:∀D,X P b O aO (.it k) ⟨N,vs,⟨.collected D,#[]⟩::ds⟩ (pt D (.deferred (aN []))::(A2++I xs++F)) R):
 X P b O aO (.it (.code (.rangeFunc g ps.toArray b49 bd)::k)) ⟨N,vs,ds⟩ H R:=by
 subst h0
 refine E0 (pok:=λpre x=>∃post,xs=pre++x::post) (fok:=λys A'=>ys=xs/\A'=A2) (sok:=λ_=>True) hG nA (λl I J hY=>(hit l I J λpre x post hx=>hY pre x ⟨post,hx⟩).rm λv B h=>h.imp (λh=>⟨_,_,⟨U,U⟩,h⟩) fun⟨A3,h⟩=>⟨A3,trivial,h⟩) hg I [pu False] (F:=F) bp5 hl hp (λb' β' l r pre x ⟨post,hx⟩=>body b' β' l r pre x post hx) (λD ys A' h=>by obtain⟨rfl,rfl⟩:=h;exact done D) λD A3 _=>?_
 refine XR.no (F:=pt D (.deferred (aN []))::(A3++F)) ?_
 refine(bS.cons _ ?_).trans (eo _ _ _)
 refine ew ?_
 simp_all
end
section
variable{P:aT}{vs:Y (ab×aR)}{rest:Y aW}
theorem Np[h:jH P e n]:P.cellsOf e=n:=by simp[Program.cellsOf,h.out]
theorem bA9[hk:Kt.pC k]{c u:ab}{a:ah aX}[ht:Xv P ty u][ho:FO H a e sz n c xs F](hw:bO ops vs ⟨aN d,.call ⟨.builtin .unsafeSliceData,#[x],#[t]⟩,ty,pos,af,g⟩=aN aP)(hn:bM d N=aP)(hx:fI vs x=aN (.slice a n c))(h:∀p,(0<n->p=a)->X P b O (aN (ops,rest)) k ⟨N,(d,.pointer p)::vs,ds⟩ (own e sz a n c xs::F) R):
 X P b O (aN (ops,⟨aN d,.call ⟨.builtin .unsafeSliceData,#[x],#[t]⟩,ty,pos,af,g⟩::rest)) k ⟨N,vs,ds⟩ H R:=
 mN (ι:={p:ah aX // 0<n->p=a}) (v:=λp=>.pointer p.1) (Hs':=λ_=>own e sz a n c xs::F) U hn hw (λaa w he hs=>by
  have e1:=bU he hx;have Ao:=hs.dE ho.out;have key:∀p w',(Builtin.unsafeSliceData_ #[t] ty #[.slice a n c]).run P w=.ok (.pointer p) w'->(aU aa.eval ⟨aN d,.call ⟨.builtin .unsafeSliceData,#[x],#[t]⟩,ty,pos,af,g⟩).run P w=.ok (.value (.pointer p)) w':=by
   intro p w' hh;simp[aU,resolve,invoke,builtin,e1,hh]
  by_cases ha:a=aO
  ·subst ha;exact⟨⟨aO,λ_=>rfl⟩,w,key _ _ (Lib.run_unsafeSliceData_nil w _ _ _ _),Ao⟩
  ·obtain⟨a0,rfl⟩:=Option.ne_none_iff_exists'.1 ha;by_cases hc:c=0
   ·subst hc;rcases eR Ao with⟨h1,_⟩|⟨g0,cur,h1,h2,h3,h4,h5,h6,h7⟩
    ·cases h1
    ·cases h1;have Nq:w.shape? g0=aN (e,cur.size):=by
      have:=fF h7
      grind [World.shape?]
     refine⟨⟨_,λhp=>by omega⟩,_,key _ _ (Lib.run_unsafeSliceData_zero w #[t] ty u ht.out ⟨g0,0,aO⟩ n _ Nq),?_⟩;exact(Sat.mR Ao _).dE (bS.drop _ _)
   ·exact⟨⟨aN a0,λ_=>rfl⟩,w,key _ _ (Lib.run_unsafeSliceData_row w _ _ _ _ _ hc),Ao⟩) (λp=>h p.1 p.2)
theorem bn0[hk:Kt.pC k]{c it:ab}{a p:ah aX}[ht:Xv P t e][hz:jH P e 1][ho:FO H a e 1 n c (l.map gT) F](hw:bO ops vs ⟨aN d,.call ⟨.builtin .unsafeString,#[x,y],#[t,it]⟩,ty,pos,af,g⟩=aN aP)(hn:bM d N=aP)(hx:fI vs x=aN (.pointer p))(hy:fI vs y=aN (.int .i64 n))(hp:0<n->p=a)(hl:n=l.length)(h:X P b O (aN (ops,rest)) k ⟨N,(d,bn l)::vs,ds⟩ F R):
 X P b O (aN (ops,⟨aN d,.call ⟨.builtin .unsafeString,#[x,y],#[t,it]⟩,ty,pos,af,g⟩::rest)) k ⟨N,vs,ds⟩ H R:=
 E9 (Hs':=F) (v:=bn l) U hn hw (λaa w he hs=>by
  have e1:=bU he hx;have e2:=bU he hy;have Ao:=hs.dE ho.out;have key:∀v w',(Builtin.unsafeString_ #[t,it] ty #[.pointer p,.int .i64 n]).run P w=.ok v w'->(aU aa.eval ⟨aN d,.call ⟨.builtin .unsafeString,#[x,y],#[t,it]⟩,ty,pos,af,g⟩).run P w=.ok (.value v) w':=by
   intro v w' hh;simp[aU,resolve,invoke,builtin,e1,e2,hh]
  by_cases h0:l=[]
  ·subst h0;simp at hl;subst hl;refine⟨w,key _ _ (Lib.run_unsafeString_none w t it ty p),?_⟩;exact Ao.dE (bS.drop _ _)
  ·have B6:0<n:=bQ;have:=hp B6;subst this;rcases eR Ao with⟨_,h2,_⟩|⟨g0,cur,h1,h2,h3,h4,h5,h6,h7⟩
   ·omega
   ·cases h1;have hb:=fF h7;have Nq:w.shape? g0=aN (e,cur.size):=by grind [World.shape?]
    have Dj:∀j x,l[j]?=aN x->w.cell? ((⟨g0,0,aO⟩:aX).add j)=aN (.int .u8 x.toNat):=by
     intro j x hj
     have hjl:j<l.length:=by
      grind
     have h8:(cur.toList.take (n*1))[j]?=aN (gT x):=bQ
     grind [gT,gl,Addr.add]
    have hm:maxLen=9223372036854775807:=U;have hr:=Lib.run_unsafeString_row (P:=P) w t it ty e ht.out Np g0 cur.size Nq l h0 bw bw Dj;rw[<-hl]at hr;refine⟨_,key _ _ hr,?_⟩;have:(w.freeze ⟨g0,0,aO⟩ n)={w with heap:=w.heap.setIfInBounds g0 (.cells cur e (0,0+n))}:=by
     unfold World.freeze
     rw[aj bw]
     congr 1
     grind
    rw[this];exact(Sat.setObj h7).dE (bS.drop _ _)) h
theorem aw9{t':ab}{a:aX}[ht:Xv P t e][hz:jH P e n](hw:bO ops vs ⟨aN d,.binOp .neq t x y t',ty,pos,af,g⟩=aN aP)(hn:bM d N=aP)(hx:fI vs x=aN (.pointer (aN a)))(hy:fI vs y=aN (.pointer (aN a)))(h:X P b O (aN (ops,rest)) k ⟨N,(d,.bool aQ)::vs,ds⟩ H R):X P b O (aN (ops,⟨aN d,.binOp .neq t x y t',ty,pos,af,g⟩::rest)) k ⟨N,vs,ds⟩ H R:=
 X.val U hn hw (λaa w he _=>by
  have e1:=bU he hx
  have e2:=bU he hy
  obtain⟨j,hj,_⟩:=cz.1 hz.out
  have:=Lib.run_neq_ptr_same (P:=P) w (tp:=t) a ht.out hj
  grind [aU,eqGuard,cb,bJ,db]) h
class TUp(P:aT)(t:ab):Prop where out:P.underlying t=aN .unsafePointer
theorem bD5{s bt bl:ab}[hs:Xv P s e][ht:TUp P t][hz:jH P e n][hf:FB H bl bt cs rs](hw:bO ops vs ⟨aN d,.convert s t x,ty,pos,af,g⟩=aN aP)(hn:bM d N=aP)(hx:fI vs x=aN (.pointer (aN ⟨bl,0,aO⟩)))(h0:bM 0 n=aP)(h1:bM 0 cs.length=aP)(h:X P b O (aN (ops,rest)) k ⟨N,(d,.pointer (aN ⟨bl,0,aO⟩))::vs,ds⟩ H R):X P b O (aN (ops,⟨aN d,.convert s t x,ty,pos,af,g⟩::rest)) k ⟨N,vs,ds⟩ H R:=
 X.val U hn hw (λaa w he ZG=>by
  have e1:=bU he hx;obtain⟨j,hj,hj2⟩:=cz.1 hz.out;have Nq:w.shape? bl=aN (bt,cs.length):=by
   have:=fF (ZG.dE hf.out)
   grind [World.shape?]
  have:=Lib.run_to_unsafe (P:=P) w ⟨bl,0,aO⟩ hs.out ht.out hj (by grind [Nat.blt_eq]) Nq Ca;simp[aU,e1,this]) h
theorem bC8{s bl:ab}[hs:TUp P s][ht:Xv P t e][hz:jH P e n][hf:FB H bl e cs rs](hw:bO ops vs ⟨aN d,.convert s t x,ty,pos,af,g⟩=aN aP)(hn:bM d N=aP)(hx:fI vs x=aN (.pointer (aN ⟨bl,0,aO⟩)))(h0:bM 0 n=aP)(h1:eU cs.length n=aP)(h:X P b O (aN (ops,rest)) k ⟨N,(d,.pointer (aN ⟨bl,0,aO⟩))::vs,ds⟩ H R):X P b O (aN (ops,⟨aN d,.convert s t x,ty,pos,af,g⟩::rest)) k ⟨N,vs,ds⟩ H R:=
 X.val U hn hw (λaa w he ZG=>by
  have e1:=bU he hx;obtain⟨j,hj,hj2⟩:=cz.1 hz.out;have hn0:0<n:=Ca;have yN:=Nat.beq_eq.mp h1;have Nq:w.shape? bl=aN (e,cs.length):=by
   have:=fF (ZG.dE hf.out)
   grind [World.shape?]
  have hl:liesAt P P.depth e (cs.length / P.cellsOf e) 0 e 1=aP:=by
   have hd:P.depth=(2*(P.types.size+Made.depth)+1)+1:=U;have hc:P.cellsOf e=n:=Np;rw[hd];simp only[liesAt,Bool.or_eq_true];left;rw[hd];simp[rowAt,hc,sameLayout,yN,Nat.div_self hn0];omega
  have:=Lib.run_from_unsafe (P:=P) w ⟨bl,0,aO⟩ hs.out ht.out hj Nq hl;simp[aU,e1,this]) h
end
def rune(l:Y au)(i:ab):ab×ab:=Utf8.decode ⟨l.toArray⟩ i
theorem TG(l:Y au)(i:ab)(h:i<l.length)(h2:l[i].toNat<128):rune l i=(l[i].toNat,1):=by
 have hs:i<(⟨l.toArray⟩:aJ).size:=YA;have he:(⟨l.toArray⟩:aJ)[i]'hs=l[i]:=U;have:=decode_ascii ⟨l.toArray⟩ i hs (by rw[he];exact h2);rw[he]at this;exact this
theorem aC7(l:Y au)(i:ab)(h:i<l.length)(h2:128<=l[i].toNat):128<=(rune l i).1:=by
 have hs:i<(⟨l.toArray⟩:aJ).size:=YA;have e:((⟨l.toArray⟩:aJ).get! (i+0))=l[i]:=by
  grind [ByteArray.get!]
 unfold rune;simp only[Utf8.decode,e,Utf8.runeError];rw[aj bw];repeat' split
 all_goals simp_all
 all_goals omega
section
variable{P:aT}{vs:Y (ab×aR)}{rest:Y aW}
theorem bD2[hk:Kt.pC k][ht:qm P t](hw:bO ops vs ⟨aN d,.range t x,ty,pos,af,g⟩=aN aP)(hn:bM d N=aP)(hx:fI vs x=aN (bn l))(h:∀r,X P b O (aN (ops,rest)) k ⟨N,(d,.pointer (aN ⟨r,0,aO⟩))::vs,ds⟩ (pt r (.stringIter ⟨l.toArray⟩ 0)::H) R):
 X P b O (aN (ops,⟨aN d,.range t x,ty,pos,af,g⟩::rest)) k ⟨N,vs,ds⟩ H R:=
 mN (v:=λr=>.pointer (aN ⟨r,0,aO⟩)) (Hs':=λr=>pt r (.stringIter ⟨l.toArray⟩ 0)::H) U hn hw (λa w he hs=>by
  have e1:=bU he hx;have:=run_range_string (P:=P) w t ⟨l.toArray⟩ ht.out;exact⟨w.heap.size,w.alloc (.stringIter ⟨l.toArray⟩ 0),by simp[aU,e1,this,World.iter],Sat.mR hs _⟩) h
theorem bC5[hk:Kt.pC k]{r:ab}[hf:FP H (pt r (.stringIter ⟨l.toArray⟩ i)) F](hw:bO ops vs ⟨aN d,.next x aP,ty,pos,af,g⟩=aN aP)(hn:bM d N=aP)(hx:fI vs x=aN (.pointer (aN ⟨r,0,aO⟩)))(h:i<l.length->X P b O (aN (ops,rest)) k ⟨N,(d,.tuple #[.bool aP,.int .i64 i,.int .i32 (rune l i).1])::vs,ds⟩ (pt r (.stringIter ⟨l.toArray⟩ (i+(rune l i).2))::F) R)(h2:l.length<=i->X P b O (aN (ops,rest)) k ⟨N,(d,.tuple #[.bool aQ])::vs,ds⟩ F R):
 X P b O (aN (ops,⟨aN d,.next x aP,ty,pos,af,g⟩::rest)) k ⟨N,vs,ds⟩ H R:=by
 have zW:(⟨l.toArray⟩:aJ).size=l.length:=bp0
 rcases Nat.lt_or_ge i l.length with hi|hi
 ·refine E9 (Hs':=pt r (.stringIter ⟨l.toArray⟩ (i+(rune l i).2))::F) (v:=.tuple #[.bool aP,.int .i64 i,.int .i32 (rune l i).1]) U hn hw (λa w he hs=>?_) (h hi);have e1:=bU he hx;have vQ:=hs.dE hf.out;have hr:=fF vQ;refine⟨_,?_,Sat.setObj vQ⟩;have vz:=(fB.1 hr).1;simp[aU,e1,Instr.next,getObj,setObj,gz,hr,zW,hi,goInt,rune]
 ·refine E9 (Hs':=F) (v:=.tuple #[.bool aQ]) U hn hw (λa w he hs=>?_) (h2 hi);have e1:=bU he hx;have vQ:=hs.dE hf.out;have hr:=fF vQ;refine⟨w,?_,vQ.dE (bS.drop _ _)⟩;simp[aU,e1,Instr.next,getObj,gz,hr,zW,Nat.not_lt.2 hi]
end
section
variable{P:aT}
theorem ly{α:Type}{Re:Rp α}{xs:Y α}[hf:BQ H a Re sz xs](j:ab)(hj:j<xs.length)(h:∀bl o,a=aN ⟨bl,o,aO⟩->X P b O cc k E (el Re sz bl (o+j*sz) xs[j]::H) R):X P b O cc k E H R:=by
 obtain⟨rr,hr⟩:=hf.out
 refine bl6 hr (q:=∃bl o,a=aN ⟨bl,o,aO⟩) ?_ ?_
 ·rintro r (h1|⟨bl,o,h1,_⟩);all_goals grind
 ·rintro⟨bl,o,rfl⟩
  refine X.dE (js hr λr h3=>?_) (h bl o U)
  rcases h3 with h1|⟨b',o',h1,h2⟩
  ·grind
  simp_all
end
end
section
variable{vs:Y (ab×aR)}{t:ab}{v:aR}
def EA(ops:ar aW)(vs:Y (ab×aR)):ai:=Fl (λp=>Fl (λo=>match o.dst with|some d=> !eU d p.1|none=>aP) ops.toList) vs
def Kt.free(k:Kt)(vs:Y (ab×aR)):ai:=match k with
 |.dr ops ..=>EA ops vs
 |.uv ops ..=>EA ops vs
 |_=>aP
theorem Z1:∀{vs:Y (ab×aR)} {t:ab} {v:aR},lk vs t=aN v->∃p∈vs,p.1=t
 |[],_,_,h=>by cases h
 |(d,u)::r,t,v,h=>by
  by_cases e:d=t
  ·exact⟨(d,u),by simp,e⟩
  ·have:lk r t=aN v:=by
    have hb:eU d t=aQ:=by
     cases hq:eU d t with
     |false=>rfl
     |true=>exact aD (fX hq) e
    unfold lk at h;rw[hb]at h;exact h
   obtain⟨p,h1,h2⟩:=Z1 this;exact⟨p,by simp[h1],h2⟩
theorem F5{ops:ar aW}(h:EA ops vs=aP)(ht:lk vs t=aN v):¬isDst ops t:=by
 rintro⟨o,ho,hd⟩;obtain⟨p,hp,rfl⟩:=Z1 ht;unfold EA at h;rw[ra,gi]at h;have h1:=h p hp;rw[ra,gi]at h1;have h2:=h1 o ho;simp_all
theorem PV{k:Kt}(h:k.free vs=aP)(ht:lk vs t=aN v):¬k.W t:=by
 cases k with
 |it k=>exact λh=>h
 |pr p=>exact λh=>h
 |dr=>exact F5 h ht
 |uv=>exact F5 h ht
section
variable{P:aT}{vs:Y (ab×aR)}{rest:Y aW}
theorem XV[hk:Kt.pC k]{G:dA}(hG:G.on O){f0 f1:ab}{rs:Y ResultVar}(nA:nL b f0)[hf:FR P f0 rs][hcf1:CF P f1]{us1 cap1:Y aR}{f:ab}{xs:Y aY}{us:Y aR}{sU:ar TypeId}{A F:Y bG}{ε α:Type}{pv:ε->aR}{r:aB ε α}{Q:α->aR->Y bG->Prop}(BP:Y (ab×aR))(hT:TR P G f us.toArray A (MR pv r Q))[uD:CF P f]
 (hw:bO ops vs ⟨aN d,.call ⟨.value (.func f),xs.toArray,sU⟩,ty,pos,af,g⟩=aN aP)(hn:bM d N=aP)
 (hx:oO vs xs=aN us)(hA:bS H (A++F))(Cl:Sub BP vs)(hfr:k.free BP=aP)
 (hp:∀e,r=.error e->∃A1 B1 F1 l C,TP P G f1 (us1++cap1).toArray (pv e) A1 B1/\bS F (A1++F1)/\kK P ⟨N,BP,[⟨.fn (.func f1) cap1.toArray,us1.toArray⟩]⟩ B1 rs l/\R (.returned (mv l)) C/\bS B1 C)
 (h:∀x,r=.ok x->∀v B,Q x v B->X P b O (aN (ops,rest)) k ⟨N,(d,v)::vs,[⟨.fn (.func f1) cap1.toArray,us1.toArray⟩]⟩ (B++F) R):
 X P b O (aN (ops,⟨aN d,.call ⟨.value (.func f),xs.toArray,sU⟩,ty,pos,af,g⟩::rest)) k ⟨N,vs,[⟨.fn (.func f1) cap1.toArray,us1.toArray⟩]⟩ H R:=by
 intro hb
 refine Aj hG uD hT hw hn (λa he w=>?_) hA ?_ (λ_ h=>h) ?_ hb
 ·have h1:=mg (E:=⟨N,vs,[⟨.fn (.func f1) cap1.toArray,us1.toArray⟩]⟩) he hx
  have h2:xs.toArray.map a.eval=us.toArray:=br2
  have h3:a.eval (.func f)=.func (.func f) #[] #[]:=U
  grind [resolve,Deferred.ofValue,invoke]
 ·rintro ch B ⟨e,hr,rfl,rfl⟩ a w he hs;obtain⟨A1,B1,F1,l,C,h1,h2,h3,h4,h5⟩:=hp e hr;obtain⟨fn,g1,rfl⟩:=hf.out;have ZV:Sat O F w:=hs;obtain⟨β',hβ,Ao,sT⟩:=mo (ZV.dE h2);have hc:=h1 β' w (G.mono hβ hG) Ao;refine XU λa' e1 e2 e3=>?_;have Ib:ik ⟨N,BP,[⟨.fn (.func f1) cap1.toArray,us1.toArray⟩]⟩ a':=⟨e1.trans he.1,e2.trans he.2.1,λt v ht=>(e3 t (PV hfr ht)).trans (he.2.2 t v (Cl t v ht))⟩;refine tm nA.ro (by rw[nA.fn];exact g1) hb ?_;rw[Ib.2.1];refine⟨by simp,.func f1,cap1.toArray,f1,(us1++cap1).toArray,U,?_,?_⟩
  ·have:=hcf1.out (us1++cap1).toArray w
   grind [invoke]
  ·refine hc.mono ?_;rintro e u' w' ⟨rfl,⟨v,rfl⟩,Fi⟩;have h6:Sat O B1 w':=(sT B1 w' Fi).dE (ia _ _);exact⟨_,oo (h3 O a' w' Ib h6),⟨C,h4,h6.dE h5⟩⟩
 ·exact ZY
end
end
end Go.Sl
namespace Go.Sl
open Go.Sort Go.Proofs
variable{O:de}{H:Y bG}{b:bc}{R:aZ->Y bG->Prop}{k:Kt}{N d ty:ab}{ds:Y Deferred}{ops:ar aW}{pos:aC}{af:ar Edge}{g:ah (ab×ai)}{E:Env}{cc:ah (ar aW×Y aW)}{w:aV}{G:dA}{α:Type}
section
variable{cur:ar aR}{os:ar Obj}{e:TypeId}{P:aT}
def GT:dA:=⟨λ_=>True,λ_ h=>h,aP⟩
theorem grown_of{w w':aV}(h1:w'.os=w.os)(h2:w'.tape=w.tape)(h3:w'.output=w.output)(h4:∀(n:ab) (o:Obj),w.heap[n]?=aN o->w'.heap[n]?=aN o)(h5:w.heap.size<=w'.heap.size)(h6:w.drawn<=w'.drawn):
 ∃q os,w'=grow (w.drewN q) os:=by
 refine⟨w'.drawn - w.drawn,w'.heap.extract w.heap.size w'.heap.size,?_⟩
 have hh:w'.heap=w.heap++w'.heap.extract w.heap.size w'.heap.size:=by
  apply Array.ext_getElem?;intro i;by_cases hi:i<w.heap.size
  ·rw[Array.getElem?_append_left hi];rw[Array.getElem?_eq_getElem hi];exact h4 i _ (Array.getElem?_eq_getElem hi)
  ·rw[Array.getElem?_append_right bw,Array.getElem?_extract];by_cases h7:i<w'.heap.size
   ·rw[ao bw];congr 1;omega
   ·rw[aj bw,Array.getElem?_eq_none bw]
 obtain⟨hp',tp,dr,os',ou⟩:=w'
 obtain⟨hp0,tp0,dr0,os0,ou0⟩:=w
 dsimp only at*
 subst h1 h2 h3
 simp only[grow,World.drewN]
 congr 1
 omega
theorem XW{f:FuncId}{args:ar aR}{v:aR}(h:TR P GT f args [] (dX v))(w:aV):Calls P f args w λe w'=>e=.returned v/\∃q os,w'=grow (w.drewN q) os:=by
 refine(h ⟨w,hp w,gI,aP⟩ w ⟨trivial,λ_=>rfl⟩ ⟨hp w,gI,.refl _,⟨.refl _,dQ _,dQ _,(ef _).symm,(ef _).symm,ef _⟩,trivial,yZ.refl _⟩).mono ?_;rintro e w' ⟨B,hB,r,o,h0,hf,_,qK⟩;cases e with
 |panicked ch=>exact hB.elim
 |outgrown=>exact hB.elim
 |returned u=>
  obtain⟨rfl,_⟩:=hB;exact⟨U,grown_of qK.1 qK.2.1 qK.2.2.1 (λn o h=>(h0.trans hf.r) n o h) qK.2.2.2.1 (qK.2.2.2.2 U)⟩
theorem ac1{w:aV}{g:ab}{ss:Y aR}(hb:w.heap[g]?=aN (.cells cur e (0,0)))(ht:cur.toList.take ss.length=ss):Holds id w g 0 ss.toArray:=by
 intro j hj;have hj':j<ss.length:=by simpa using hj
 refine⟨?_,by simp[World.frozen?,hb]⟩;have h1:(cur.toList.take ss.length)[j]?=ss[j]?:=by rw[ht]
 rw[List.getElem?_take_of_lt hj']at h1;simp only[gl,hb,bT];simp only[Option.isSome_none,di,aI];rw[<-eE,h1];simp[hj']
theorem aF6{w:aV}{g n:ab}{fr:ab×ab}(d:ar aR)(hb:w.heap[g]?=aN (.cells cur e fr)):
 (grow (putRow id (Sort.ahead w n) g 0 d) os).heap[g]?=aN (.cells (putCells id 0 d cur) e fr):=by
 have hg:g<w.heap.size:=(fB.1 hb).1
 rw[heap_grow_old _ _ (by simpa using hg)]
 simp[putRow,mapBlock,Sort.ahead,fW,hb,onCells]
theorem Q7{w:aV}{g n:ab}(d:ar aR):w.grownBy (grow (putRow id (Sort.ahead w n) g 0 d) os) (aN g):=by
 refine⟨U,U,U,by simp,λk hk mf=>?_⟩;rw[heap_grow_old _ _ (by simpa using hk)];have:g≠k:=λe=>mf (by rw[e]);simp[putRow,mapBlock,Sort.ahead,fW,this]
theorem aF7(cur:ar aR)(ts:Y aR)(h:ts.length<=cur.size):(putCells id 0 ts.toArray cur).toList.take ts.length=ts:=by
 apply fq;intro j;by_cases hj:j<ts.length
 ·rw[List.getElem?_take_of_lt hj,eE];simp[putCells,hj,show j<cur.size by omega]
 ·rw[List.getElem?_take_eq_none bw,List.getElem?_eq_none bw]
theorem NP{α:Type}[Inhabited α]{cC:α->Y aR}{k:ab}(hk:∀x,(cC x).length=k)(h0:0<k)(xs:Y α):flatK cC k xs.toArray=(xs.flatMap cC).toArray:=by
 have hl:=zm hk xs;apply Array.ext
 ·simp[hl]
 ·intro t h1 h2;have ht:t<xs.length*k:=yz;have hj:t / k<xs.length:=(Nat.div_lt_iff_lt_mul h0).2 ht;have hm:t%k<k:=Nat.mod_lt _ h0;have e1:=get_flatK cC k xs.toArray t (by simpa using ht);rw[getElem!_pos _ t h1]at e1;rw[e1];have e2:=TB hk xs (t / k) hj;have hx:xs.toArray[t / k]! =xs[t / k]:=by simp[hj]
  rw[hx,<-e2];have h3:t%k<(((xs.flatMap cC).drop (t / k*k)).take k).length:=by rw[e2,hk];exact hm
  rw[getElem!_pos (((xs.flatMap cC).drop (t / k*k)).take k) (t%k) h3,List.getElem_take,List.getElem_drop];have h4:t / k*k+t%k=t:=by rw[Nat.mul_comm];exact Nat.div_add_mod t k
  simp only[List.getElem_toArray];congr 1
theorem NQ{ρ:Go.Shelf.Ren}{G:dA}(L:SlLaysF0.n6 P ρ){α:Type}[Inhabited α](e k:ab)[aE:TA P (ρ.t 24) aP][zE:jH P (ρ.t 24) k](cC:α->Y aR)(hk:∀x,(cC x).length=k)(h1:∀x,nY (cC x)=aP)(Ze:0<k)(cf:α->α->ae)(hO:SWO (ltOf cf))(hT:∀x y,(ltOf cf) x y=aQ->(ltOf cf) y x=aQ->x=y)(g:ab)[uD:CF P g](hc:∀x y,TR P GT g #[.agg (cC x).toArray,.agg (cC y).toArray] [] (dX (.int .i64 (cf x y))))(a:ah aX)(n c:ab)(xs:Y α)(hn:xs.length=n)(zW:n<=1000000000000):
 TR P G (ρ.f 6) #[.slice a n c,.func (.func g) #[] #[]] [own e k a n c (xs.flatMap cC)] (dC λv B=>v=.tuple #[]/\B=[own e k a n c ((xs.mergeSort λx y=> !(ltOf cf) y x).flatMap cC)]):=by
 intro O w _ hs
 have hlen:=zm hk xs
 rcases eR hs with⟨rfl,rfl,rfl,Qf,h2⟩|⟨gb,cur,rfl,h3,h6,h7,h8,h9,h2⟩
 ·have KH:xs=[]:=List.length_eq_zero_iff.1 hn;subst KH;refine(AnyF.slices_SortFunc_none L aO 0 _ w).mono ?_;rintro e' w' ⟨rfl,rfl⟩;exact⟨_,⟨U,U⟩,by simpa using j6 e k h2⟩
 ·subst hn;have hg:=fF h2;have hH:HoldsK cC k w gb 0 xs.toArray:=by
   unfold HoldsK;rw[NP hk Ze];exact ac1 hg (by rw[hlen];exact h9)
  have hcmp:CmpLays P g #[] cC k cf gb 0 xs.toArray.size w:=λm os dk _ x y=>by
   have:=XW (hc x y) (sortWorldK cC k w gb 0 m dk os);simpa using this
  have a74:=AnyQ.slices_SortFunc_total L k (λw=>jZ aE.out) (λw=>jR zE.out) cC hk (λx v hv=>rD (h1 x) v hv) cf hO g #[] gb 0 c xs.toArray w uD.out hcmp hH (fB.1 hg).1 fD hT;simp only[eW]at a74;refine a74.mono ?_;rintro e' w' ⟨rfl,n',os,rfl⟩;refine⟨_,⟨U,U⟩,?_⟩;have qN:(xs.mergeSort λx y=> !(ltOf cf) y x).length=xs.length:=List.length_mergeSort _;generalize(xs.mergeSort λx y=> !(ltOf cf) y x)=ys at*;unfold sortWorldK putRowK;rw[NP hk Ze];have Ci:=zm hk ys;have h4:=B3 h2 (Q7 (w:=w) (g:=gb) (n:=n') (os:=os) (ys.flatMap cC).toArray) (bW _ _) (aF6 (ys.flatMap cC).toArray hg) (.inl U);refine gY h4 (by rw[Ci,qN]) h6 h7 (by simp[Sort.putCells];omega) ?_;have h5:=aF7 cur (ys.flatMap cC) (by rw[Ci,qN];exact bo (eB _ h6) h8);rw[Ci,qN]at h5;exact h5
end
end Go.Sl
namespace Go.Sl
variable{O:de}{H:Y bG}{b:bc}{R:aZ->Y bG->Prop}{k:Kt}{N d ty:ab}{ds:Y Deferred}{ops:ar aW}{pos:aC}{af:ar Edge}{g:ah (ab×ai)}{E:Env}{cc:ah (ar aW×Y aW)}{w:aV}{G:dA}{α:Type}
class TFu(P:aT)(t:ab):Prop where out:∃ps rs v,P.underlying t=aN (.func ps rs v)
def aM7:aR->ai
 |.func ..=>aP
 |_=>aQ
def zY:aR->ai
 |.func ..=>aP
 |.nilFunc=>aP
 |_=>aQ
section
variable{P:aT}{vs:Y (ab×aR)}{rest:Y aW}
theorem PW{t t':ab}{x:aY}{u:aR}[ht:TFu P t](hw:bO ops vs ⟨aN d,.binOp .neq t x (.const .nilFunc) t',ty,pos,af,g⟩=aN aP)(hn:bM d N=aP)(hx:fI vs x=aN u)(hi:zY u=aP)
 (h:X P b O (aN (ops,rest)) k ⟨N,(d,.bool (aM7 u))::vs,ds⟩ H R):X P b O (aN (ops,⟨aN d,.binOp .neq t x (.const .nilFunc) t',ty,pos,af,g⟩::rest)) k ⟨N,vs,ds⟩ H R:=
 X.val U hn hw (λa w he _=>by
  have e1:=bU he hx;have e2:a.eval (.const .nilFunc)=.nilFunc:=U;obtain⟨ps,rs,v,Ik⟩:=ht.out;obtain⟨n,hn⟩:=sW;cases u<;>simp only[zY,di]at hi;all_goals simp[aU,e1,e2,eqGuard,binOp,hn,gq,cI Ik,aM7]) h
end
end Go.Sl
namespace Go.Proofs
open Go.Sl Tryz
set_option maxRecDepth 8000
section
variable{fn:Func}{p:Prop}{f n:ab}
theorem K(h:p:=by kernel_rfl):p:=h
theorem K2(h:p:=by decide):p:=h
class FA(f:ab)(fn:ay Func)(n:ay ab):Prop where
 o:(be.funcs[f]?).map (λg=>(g,g.ntmps,g.name== "runtime.NumGoroutine",g.body.isSome))=aN (fn,n,aQ,aP)
theorem FA.u(h:FA f fn n):be.funcs[f]?=aN fn/\fn.ntmps=n/\(fn.name== "runtime.NumGoroutine")=aQ/\fn.body=aN (Ky fn):=by
 obtain⟨g,h1,h2⟩:=cz.1 h.o;simp only[Prod.mk.injEq]at h2;obtain⟨rfl,rfl,h3,h4⟩:=h2;refine⟨h1,U,h3,?_⟩;unfold Ky;cases hb:g.body with
 |none=>rw[hb]at h4;cases h4
 |some c=>rfl
theorem bC(h:(be.funcs[f]?).map (λg=>(g,g.ntmps,g.name== "runtime.NumGoroutine",g.body.isSome))=aN (fn,n,aQ,aP):=by kernel_rfl):FA f fn n:=⟨h⟩
section
variable {f:ab}{fn:Func}{n:ab}[h:FA f fn n]
instance:CF be f:=⟨enters_of h.u.1 h.u.2.2.1 h.u.2.2.2⟩
instance:FR be f fn.results.toList:=⟨_,h.u.1,U⟩
instance:FC be f n (Ky fn):=⟨_,h.u.1,h.u.2.1,h.u.2.2.2⟩
end
theorem cU{s i off sz:ab}{ag:ai}{fs:ar Field}(u:be.underlying s=aN (.struct fs))(h:∃f,fs[i]?=aN f/\f.offset=off/\(be.info? f.type).map (·.size)=aN sz/\sz≠0/\(be.underlying f.type).map ax5=aN ag:=by exact⟨_,U,U,K,K2,K⟩):TF be s i off sz ag:=⟨_,h.choose,u,h.choose_spec⟩
instance:vA be 2 .i64:=⟨underlying2⟩
instance:vA be 3 .i64:=⟨underlying3⟩
instance:TA be 3 aQ:=⟨K⟩
instance:jH be 3 1:=⟨K⟩
instance:Ap be 3 8:=⟨K⟩
instance:TZ be 3 [.int .i64 0]:=⟨K⟩
instance:bo8 be 4:=⟨underlying4⟩
instance:TA be 4 aQ:=⟨K⟩
instance:jH be 4 1:=⟨K⟩
instance:TZ be 4 [.bool aQ]:=⟨K⟩
instance:vA be 5 .u8:=⟨underlying5⟩
instance:TA be 5 aQ:=⟨K⟩
instance:jH be 5 1:=⟨K⟩
instance:Ap be 5 1:=⟨K⟩
instance:TZ be 5 [.int .u8 0]:=⟨K⟩
instance:qm be 9:=⟨underlying9⟩
instance:TA be 9 aQ:=⟨K⟩
instance:jH be 9 1:=⟨K⟩
instance:Ap be 9 16:=⟨K⟩
instance:TZ be 9 [.string ⟨dN []⟩]:=⟨K⟩
instance:vA be 23 .i64:=⟨underlying23⟩
instance:TA be 23 aQ:=⟨K⟩
instance:jH be 23 1:=⟨K⟩
instance:TZ be 23 [.int .i64 0]:=⟨K⟩
instance:qQ be 27 39:=⟨underlying27⟩
instance:Xv be 28 74:=⟨underlying28⟩
instance:TA be 28 aQ:=⟨K⟩
instance:jH be 28 1:=⟨K⟩
instance:Xv be 32 145:=⟨underlying32⟩
instance:TA be 32 aQ:=⟨K⟩
instance:jH be 32 1:=⟨K⟩
instance:TF be 34 0 0 1 aQ:=cU underlying34
instance:TF be 34 1 1 1 aQ:=cU underlying34
instance:TF be 34 2 2 1 aQ:=cU underlying34
instance:TF be 34 3 3 1 aQ:=cU underlying34
instance:uw be 34 [(0,1),(1,1),(2,1),(3,1)]:=⟨_,underlying34,K⟩
instance:TZ be 34 [.pointer aO,.pointer aO,.string ⟨dN []⟩,.string ⟨dN []⟩]:=⟨K⟩
instance:qQ be 35 9:=⟨underlying35⟩
instance:TA be 35 aQ:=⟨K⟩
instance:jH be 35 1:=⟨K⟩
instance:TZ be 35 [.slice aO 0 0]:=⟨K⟩
instance:TF be 39 0 0 1 aQ:=cU underlying39
instance:TF be 39 1 1 1 aQ:=cU underlying39
instance:TF be 39 2 2 1 aQ:=cU underlying39
instance:TF be 39 3 3 1 aQ:=cU underlying39
instance:TF be 39 4 4 1 aQ:=cU underlying39
instance:uw be 39 [(0,1),(1,1),(2,1),(3,1),(4,1)]:=⟨_,underlying39,K⟩
instance:TA be 39 aP:=⟨K⟩
instance:jH be 39 5:=⟨K⟩
instance:TZ be 39 [.int .i64 0,.int .i64 0,.int .i64 0,.string ⟨dN []⟩,.string ⟨dN []⟩]:=⟨K⟩
instance:qQ be 48 60:=⟨underlying48⟩
instance:TA be 48 aQ:=⟨K⟩
instance:jH be 48 1:=⟨K⟩
instance:TZ be 48 [.slice aO 0 0]:=⟨K⟩
instance:TF be 53 0 0 1 aQ:=cU underlying53
instance:TF be 53 1 1 1 aQ:=cU underlying53
instance:uw be 53 [(0,1),(1,1)]:=⟨_,underlying53,K⟩
instance:TZ be 53 [.pointer aO,.pointer aO]:=⟨K⟩
instance:Xv be 54 57:=⟨underlying54⟩
instance:TA be 54 aQ:=⟨K⟩
instance:jH be 54 1:=⟨K⟩
instance:qQ be 55 5:=⟨underlying55⟩
instance:TA be 55 aQ:=⟨K⟩
instance:jH be 55 1:=⟨K⟩
instance:Ap be 55 24:=⟨K⟩
instance:TZ be 55 [.slice aO 0 0]:=⟨K⟩
instance:TF be 57 0 0 1 aQ:=cU underlying57
instance:TF be 57 1 1 1 aQ:=cU underlying57
instance:jH be 57 2:=⟨K⟩
instance:TZ be 57 [.pointer aO,.slice aO 0 0]:=⟨K⟩
instance:qQ be 58 3:=⟨underlying58⟩
instance:TA be 58 aQ:=⟨K⟩
instance:jH be 58 1:=⟨K⟩
instance:TF be 60 0 0 1 aQ:=cU underlying60
instance:TF be 60 1 1 1 aQ:=cU underlying60
instance:TF be 60 2 2 1 aQ:=cU underlying60
instance:uw be 60 [(0,1),(1,1),(2,1)]:=⟨_,underlying60,K⟩
instance:TA be 60 aP:=⟨K⟩
instance:jH be 60 3:=⟨K⟩
instance:Ap be 60 64:=⟨K⟩
instance:TZ be 60 [.string ⟨dN []⟩,.slice aO 0 0,.slice aO 0 0]:=⟨K⟩
instance:TA be 62 aQ:=⟨K⟩
instance:qQ be 67 70:=⟨underlying67⟩
instance:TA be 67 aQ:=⟨K⟩
instance:TF be 70 0 0 1 aQ:=cU underlying70
instance:TF be 70 1 1 1 aQ:=cU underlying70
instance:uw be 70 [(0,1),(1,1)]:=⟨_,underlying70,K⟩
instance:TA be 70 aP:=⟨K⟩
instance:jH be 70 2:=⟨K⟩
instance:Ap be 70 40:=⟨K⟩
instance:TZ be 70 [.string ⟨dN []⟩,.slice aO 0 0]:=⟨K⟩
instance:zV be 72 9 75:=⟨underlying72⟩
instance:TA be 72 aQ:=⟨K⟩
instance:TF be 74 0 0 1 aQ:=cU underlying74
instance:TF be 74 1 1 1 aQ:=cU underlying74
instance:TF be 74 2 2 1 aQ:=cU underlying74
instance:TF be 74 3 3 1 aQ:=cU underlying74
instance:TF be 74 4 4 1 aQ:=cU underlying74
instance:TF be 74 5 5 1 aQ:=cU underlying74
instance:TF be 74 6 6 1 aQ:=cU underlying74
instance:TF be 74 7 7 1 aQ:=cU underlying74
instance:uw be 74 [(0,1),(1,1),(2,1),(3,1),(4,1),(5,1),(6,1),(7,1)]:=⟨_,underlying74,K⟩
instance:TZ be 74 [.int .i64 0,.int .i64 0,.map aO,.int .i64 0,.int .i64 0,.int .i64 0,.bool aQ,.bool aQ]:=⟨K⟩
instance:Xv be 75 78:=⟨underlying75⟩
instance:TA be 75 aQ:=⟨K⟩
instance:jH be 75 1:=⟨K⟩
instance:TZ be 75 [.pointer aO]:=⟨K⟩
instance:TF be 78 0 0 1 aQ:=cU underlying78
instance:TF be 78 1 1 1 aQ:=cU underlying78
instance:uw be 78 [(0,1),(1,1)]:=⟨_,underlying78,K⟩
instance:TZ be 78 [.slice aO 0 0,.int .i64 0]:=⟨K⟩
instance:qQ be 86 270:=⟨underlying86⟩
instance:TA be 86 aQ:=⟨K⟩
instance:jH be 86 1:=⟨K⟩
instance:vA be 87 .u64:=⟨underlying87⟩
instance:TA be 87 aQ:=⟨K⟩
instance:jH be 87 1:=⟨K⟩
instance:TZ be 87 [.int .u64 0]:=⟨K⟩
instance:TF be 89 0 0 1 aQ:=cU underlying89
instance:TF be 89 1 1 1 aQ:=cU underlying89
instance:TF be 89 2 2 1 aQ:=cU underlying89
instance:TF be 89 3 3 1 aQ:=cU underlying89
instance:uw be 89 [(0,1),(1,1),(2,1),(3,1)]:=⟨_,underlying89,K⟩
instance:TA be 89 aP:=⟨K⟩
instance:jH be 89 4:=⟨K⟩
instance:TZ be 89 [.slice aO 0 0,.int .u64 0,.int .i64 0,.int .i64 0]:=⟨K⟩
instance:TF be 93 0 0 1 aQ:=cU underlying93
instance:TF be 93 1 1 1 aQ:=cU underlying93
instance:TF be 93 2 2 1 aQ:=cU underlying93
instance:uw be 93 [(0,1),(1,1),(2,1)]:=⟨_,underlying93,K⟩
instance:TA be 93 aP:=⟨K⟩
instance:jH be 93 3:=⟨K⟩
instance:TZ be 93 [.int .i64 0,.int .i64 0,.bool aQ]:=⟨K⟩
instance:uw be 110 []:=⟨_,underlying110,K⟩
instance:TZ be 110 []:=⟨K⟩
instance:uw be 111 []:=⟨_,underlying111,K⟩
instance:TZ be 111 []:=⟨K⟩
instance:TA be 118 aQ:=⟨K⟩
instance:TA be 119 aQ:=⟨K⟩
instance:TF be 121 0 0 1 aQ:=cU underlying121
instance:TF be 121 1 1 1 aQ:=cU underlying121
instance:TF be 121 2 2 1 aQ:=cU underlying121
instance:uw be 121 [(0,1),(1,1),(2,1)]:=⟨_,underlying121,K⟩
instance:jH be 121 3:=⟨K⟩
instance:TZ be 121 [.slice aO 0 0,.nilFunc,.nilFunc]:=⟨K⟩
instance:zV be 122 9 121:=⟨underlying122⟩
instance:Xv be 124 5:=⟨underlying124⟩
instance:TA be 128 aQ:=⟨K⟩
instance:jH be 128 1:=⟨K⟩
instance:TA be 133 aQ:=⟨K⟩
instance:jH be 133 1:=⟨K⟩
instance:TZ be 133 [.pointer aO]:=⟨K⟩
instance:TF be 137 0 0 1 aQ:=cU underlying137
instance:TF be 137 1 1 1 aQ:=cU underlying137
instance:uw be 137 [(0,1),(1,1)]:=⟨_,underlying137,K⟩
instance:TZ be 137 [.pointer aO,.pointer aO]:=⟨K⟩
instance:vA be 139 .u32:=⟨underlying139⟩
instance:TA be 139 aQ:=⟨K⟩
instance:jH be 139 1:=⟨K⟩
instance:Ap be 139 4:=⟨K⟩
instance:TZ be 139 [.int .u32 0]:=⟨K⟩
instance:TF be 145 0 0 2 aP:=cU underlying145
instance:TF be 145 1 2 1 aQ:=cU underlying145
instance:TF be 145 2 3 3 aP:=cU underlying145
instance:TF be 145 3 6 2 aP:=cU underlying145
instance:TF be 145 4 8 1 aQ:=cU underlying145
instance:TF be 145 5 9 1 aQ:=cU underlying145
instance:TF be 145 6 10 1 aQ:=cU underlying145
instance:uw be 145 [(0,2),(2,1),(3,3),(6,2),(8,1),(9,1),(10,1)]:=⟨_,underlying145,K⟩
instance:TZ be 145 [.int .i32 0,.int .u32 0,.pointer aO,.int .i64 0,.int .i64 0,.bool aQ,.pointer aO,.pointer aO,.int .u64 0,.bool aQ,.bool aQ]:=⟨K⟩
instance:vA be 149 .i64:=⟨underlying149⟩
instance:TA be 149 aQ:=⟨K⟩
instance:jH be 149 1:=⟨K⟩
instance:TZ be 149 [.int .i64 0]:=⟨K⟩
instance:TF be 151 0 0 1 aQ:=cU underlying151
instance:TF be 151 1 1 1 aQ:=cU underlying151
instance:TF be 151 2 2 1 aQ:=cU underlying151
instance:TF be 151 3 3 1 aQ:=cU underlying151
instance:uw be 151 [(0,1),(1,1),(2,1),(3,1)]:=⟨_,underlying151,K⟩
instance:TA be 151 aP:=⟨K⟩
instance:jH be 151 4:=⟨K⟩
instance:Ap be 151 48:=⟨K⟩
instance:TZ be 151 [.int .u64 0,.int .i64 0,.string ⟨dN []⟩,.string ⟨dN []⟩]:=⟨K⟩
instance:TF be 153 0 0 1 aQ:=cU underlying153
instance:TF be 153 1 1 1 aQ:=cU underlying153
instance:TF be 153 2 2 1 aQ:=cU underlying153
instance:uw be 153 [(0,1),(1,1),(2,1)]:=⟨_,underlying153,K⟩
instance:TA be 153 aP:=⟨K⟩
instance:jH be 153 3:=⟨K⟩
instance:Ap be 153 24:=⟨K⟩
instance:TZ be 153 [.int .u32 0,.int .i64 0,.int .i64 0]:=⟨K⟩
instance:TF be 155 0 0 1 aQ:=cU underlying155
instance:TF be 155 1 1 1 aQ:=cU underlying155
instance:TF be 155 2 2 1 aQ:=cU underlying155
instance:TF be 155 3 3 3 aP:=cU underlying155
instance:TF be 155 4 6 1 aQ:=cU underlying155
instance:TF be 155 5 7 1 aQ:=cU underlying155
instance:uw be 155 [(0,1),(1,1),(2,1),(3,3),(6,1),(7,1)]:=⟨_,underlying155,K⟩
instance:TA be 155 aP:=⟨K⟩
instance:jH be 155 8:=⟨K⟩
instance:Ap be 155 80:=⟨K⟩
instance:TZ be 155 [.string ⟨dN []⟩,.int .u64 0,.int .i64 0,.int .u32 0,.int .i64 0,.int .i64 0,.bool aQ,.string ⟨dN []⟩]:=⟨K⟩
instance:TF be 177 0 0 1 aQ:=cU underlying177
instance:TF be 177 1 1 1 aQ:=cU underlying177
instance:TF be 177 2 2 1 aQ:=cU underlying177
instance:TF be 177 3 3 1 aQ:=cU underlying177
instance:TF be 177 4 4 1 aQ:=cU underlying177
instance:TF be 177 5 5 1 aQ:=cU underlying177
instance:TF be 177 6 6 1 aQ:=cU underlying177
instance:TF be 177 7 7 1 aQ:=cU underlying177
instance:uw be 177 [(0,1),(1,1),(2,1),(3,1),(4,1),(5,1),(6,1),(7,1)]:=⟨_,underlying177,K⟩
instance:TZ be 177 [.pointer aO,.int .i64 0,.int .i64 0,.int .u32 0,.int .i64 0,.int .i64 0,.int .i64 0,.bool aQ]:=⟨K⟩
instance:uw be 180 [(0,1),(1,1)]:=⟨_,underlying180,K⟩
instance:TZ be 180 [.string ⟨dN []⟩,.nilIface]:=⟨K⟩
instance:qQ be 181 266:=⟨underlying181⟩
instance:TA be 181 aQ:=⟨K⟩
instance:jH be 181 1:=⟨K⟩
instance:TF be 183 0 0 1 aQ:=cU underlying183
instance:TF be 183 1 1 4 aP:=cU underlying183
instance:TF be 183 2 5 1 aQ:=cU underlying183
instance:uw be 183 [(0,1),(1,4),(5,1)]:=⟨_,underlying183,K⟩
instance:TA be 183 aP:=⟨K⟩
instance:jH be 183 6:=⟨K⟩
instance:TZ be 183 [.slice aO 0 0,.slice aO 0 0,.int .u64 0,.int .i64 0,.int .i64 0,.int .i64 0]:=⟨K⟩
instance:TF be 214 0 0 1 aQ:=cU underlying214
instance:TF be 214 1 1 1 aQ:=cU underlying214
instance:TF be 214 2 2 1 aQ:=cU underlying214
instance:TF be 214 3 3 1 aQ:=cU underlying214
instance:TF be 214 4 4 1 aQ:=cU underlying214
instance:uw be 214 [(0,1),(1,1),(2,1),(3,1),(4,1)]:=⟨_,underlying214,K⟩
instance:TA be 214 aP:=⟨K⟩
instance:jH be 214 5:=⟨K⟩
instance:Ap be 214 48:=⟨K⟩
instance:TZ be 214 [.int .u64 0,.int .i64 0,.int .i64 0,.int .i64 0,.string ⟨dN []⟩]:=⟨K⟩
instance:TF be 216 0 0 1 aQ:=cU underlying216
instance:TF be 216 1 1 1 aQ:=cU underlying216
instance:TF be 216 2 2 1 aQ:=cU underlying216
instance:uw be 216 [(0,1),(1,1),(2,1)]:=⟨_,underlying216,K⟩
instance:TA be 216 aP:=⟨K⟩
instance:jH be 216 3:=⟨K⟩
instance:TZ be 216 [.int .i64 0,.int .i64 0,.int .u32 0]:=⟨K⟩
instance:TF be 218 0 0 1 aQ:=cU underlying218
instance:TF be 218 1 1 3 aP:=cU underlying218
instance:uw be 218 [(0,1),(1,3)]:=⟨_,underlying218,K⟩
instance:TA be 218 aP:=⟨K⟩
instance:jH be 218 4:=⟨K⟩
instance:TZ be 218 [.int .i64 0,.int .i64 0,.int .i64 0,.int .u32 0]:=⟨K⟩
instance:TF be 220 0 0 1 aQ:=cU underlying220
instance:TF be 220 1 1 4 aP:=cU underlying220
instance:TF be 220 2 5 5 aP:=cU underlying220
instance:TF be 220 3 10 4 aP:=cU underlying220
instance:uw be 220 [(0,1),(1,4),(5,5),(10,4)]:=⟨_,underlying220,K⟩
instance:TA be 220 aP:=⟨K⟩
instance:jH be 220 14:=⟨K⟩
instance:TZ be 220 [.int .i64 0,.int .u64 0,.int .i64 0,.string ⟨dN []⟩,.string ⟨dN []⟩,.int .u64 0,.int .i64 0,.int .i64 0,.int .i64 0,.string ⟨dN []⟩,.int .i64 0,.int .i64 0,.int .i64 0,.int .u32 0]:=⟨K⟩
instance:zV be 232 9 235:=⟨underlying232⟩
instance:TA be 232 aQ:=⟨K⟩
instance:jH be 232 1:=⟨K⟩
instance:TF be 234 0 0 1 aQ:=cU underlying234
instance:uw be 234 [(0,1)]:=⟨_,underlying234,K⟩
instance:TZ be 234 [.map aO]:=⟨K⟩
instance:qQ be 235 155:=⟨underlying235⟩
instance:TA be 235 aQ:=⟨K⟩
instance:jH be 235 1:=⟨K⟩
instance:TZ be 235 [.slice aO 0 0]:=⟨K⟩
instance:zV be 246 9 55:=⟨underlying246⟩
instance:TA be 246 aQ:=⟨K⟩
instance:qQ be 254 139:=⟨underlying254⟩
instance:qQ be 255 70:=⟨underlying255⟩
instance:TA be 255 aQ:=⟨K⟩
instance:jH be 255 1:=⟨K⟩
instance:TF be 258 0 0 1 aQ:=cU underlying258
instance:TF be 258 1 1 1 aQ:=cU underlying258
instance:TF be 258 2 2 6 aP:=cU underlying258
instance:uw be 258 [(0,1),(1,1),(2,6)]:=⟨_,underlying258,K⟩
instance:TZ be 258 [.slice aO 0 0,.int .i64 0,.slice aO 0 0,.slice aO 0 0,.int .u64 0,.int .i64 0,.int .i64 0,.int .i64 0]:=⟨K⟩
instance:qQ be 259 262:=⟨underlying259⟩
instance:TF be 262 0 0 2 aP:=cU underlying262
instance:TF be 262 1 2 1 aQ:=cU underlying262
instance:uw be 262 [(0,2),(2,1)]:=⟨_,underlying262,K⟩
instance:TA be 262 aP:=⟨K⟩
instance:jH be 262 3:=⟨K⟩
instance:Ap be 262 48:=⟨K⟩
instance:TZ be 262 [.string ⟨dN []⟩,.slice aO 0 0,.int .u32 0]:=⟨K⟩
instance:TA be 264 aQ:=⟨K⟩
instance:TF be 266 0 0 1 aQ:=cU underlying266
instance:TF be 266 1 1 1 aQ:=cU underlying266
instance:TF be 266 2 2 1 aQ:=cU underlying266
instance:TF be 266 3 3 1 aQ:=cU underlying266
instance:TF be 266 4 4 1 aQ:=cU underlying266
instance:uw be 266 [(0,1),(1,1),(2,1),(3,1),(4,1)]:=⟨_,underlying266,K⟩
instance:TA be 266 aP:=⟨K⟩
instance:jH be 266 5:=⟨K⟩
instance:Ap be 266 72:=⟨K⟩
instance:TZ be 266 [.int .i64 0,.string ⟨dN []⟩,.string ⟨dN []⟩,.slice aO 0 0,.int .i64 0]:=⟨K⟩
instance:jH be 267 1:=⟨K⟩
instance:qQ be 268 404:=⟨underlying268⟩
instance:TA be 268 aQ:=⟨K⟩
instance:jH be 268 1:=⟨K⟩
instance:TZ be 268 [.slice aO 0 0]:=⟨K⟩
instance:TF be 270 2 2 1 aQ:=cU underlying270
instance:TF be 270 3 3 1 aQ:=cU underlying270
instance:TF be 270 4 4 1 aQ:=cU underlying270
instance:uw be 270 [(0,1),(1,1),(2,1),(3,1),(4,1)]:=⟨_,underlying270,K⟩
instance:TA be 270 aP:=⟨K⟩
instance:jH be 270 5:=⟨K⟩
instance:Ap be 270 72:=⟨K⟩
instance:TZ be 270 [.string ⟨dN []⟩,.int .i64 0,.slice aO 0 0,.string ⟨dN []⟩,.int .i64 0]:=⟨K⟩
instance:TA be 275 aQ:=⟨K⟩
instance:jH be 275 1:=⟨K⟩
instance:qQ be 277 280:=⟨underlying277⟩
instance:Xv be 280 283:=⟨underlying280⟩
instance:TA be 280 aQ:=⟨K⟩
instance:jH be 280 1:=⟨K⟩
instance:Ap be 280 8:=⟨K⟩
instance:TZ be 280 [.pointer aO]:=⟨K⟩
instance:qQ be 281 214:=⟨underlying281⟩
instance:TA be 281 aQ:=⟨K⟩
instance:jH be 281 1:=⟨K⟩
instance:TZ be 281 [.slice aO 0 0]:=⟨K⟩
instance:TF be 283 0 0 1 aQ:=cU underlying283
instance:TF be 283 1 1 1 aQ:=cU underlying283
instance:TF be 283 2 2 1 aQ:=cU underlying283
instance:TF be 283 3 3 1 aQ:=cU underlying283
instance:uw be 283 [(0,1),(1,1),(2,1),(3,1)]:=⟨_,underlying283,K⟩
instance:TZ be 283 [.int .u32 0,.slice aO 0 0,.bool aQ,.slice aO 0 0]:=⟨K⟩
instance:zV be 286 9 110:=⟨underlying286⟩
instance:TA be 286 aQ:=⟨K⟩
instance:TF be 292 0 0 1 aQ:=cU underlying292
instance:TF be 292 1 1 1 aQ:=cU underlying292
instance:jH be 292 2:=⟨K⟩
instance:qQ be 337 349:=⟨underlying337⟩
instance:TA be 339 aQ:=⟨K⟩
instance:qQ be 341 151:=⟨underlying341⟩
instance:TA be 341 aQ:=⟨K⟩
instance:jH be 341 1:=⟨K⟩
instance:zV be 343 9 344:=⟨underlying343⟩
instance:TA be 343 aQ:=⟨K⟩
instance:zV be 344 151 3:=⟨underlying344⟩
instance:TA be 344 aQ:=⟨K⟩
instance:TF be 346 0 0 1 aQ:=cU underlying346
instance:TF be 346 1 1 1 aQ:=cU underlying346
instance:TF be 346 2 2 1 aQ:=cU underlying346
instance:TF be 346 3 3 1 aQ:=cU underlying346
instance:uw be 346 [(0,1),(1,1),(2,1),(3,1)]:=⟨_,underlying346,K⟩
instance:TZ be 346 [.slice aO 0 0,.map aO,.map aO,.int .u64 0]:=⟨K⟩
instance:TF be 349 0 0 2 aP:=cU underlying349
instance:TF be 349 1 2 1 aQ:=cU underlying349
instance:TF be 349 2 3 1 aQ:=cU underlying349
instance:TF be 349 3 4 1 aQ:=cU underlying349
instance:uw be 349 [(0,2),(2,1),(3,1),(4,1)]:=⟨_,underlying349,K⟩
instance:TA be 349 aP:=⟨K⟩
instance:jH be 349 5:=⟨K⟩
instance:Ap be 349 80:=⟨K⟩
instance:TZ be 349 [.string ⟨dN []⟩,.slice aO 0 0,.int .u32 0,.slice aO 0 0,.bool aQ]:=⟨K⟩
instance:qQ be 351 55:=⟨underlying351⟩
instance:TF be 355 0 0 1 aQ:=cU underlying355
instance:TF be 355 1 1 1 aQ:=cU underlying355
instance:uw be 355 [(0,1),(1,1)]:=⟨_,underlying355,K⟩
instance:TZ be 355 [.slice aO 0 0,.slice aO 0 0]:=⟨K⟩
instance:qQ be 362 365:=⟨underlying362⟩
instance:TA be 362 aQ:=⟨K⟩
instance:jH be 362 1:=⟨K⟩
instance:TZ be 362 [.slice aO 0 0]:=⟨K⟩
instance:TF be 365 0 0 14 aP:=cU underlying365
instance:TF be 365 1 14 1 aQ:=cU underlying365
instance:TF be 365 2 15 1 aQ:=cU underlying365
instance:uw be 365 [(0,14),(14,1),(15,1)]:=⟨_,underlying365,K⟩
instance:TA be 365 aP:=⟨K⟩
instance:jH be 365 16:=⟨K⟩
instance:Ap be 365 152:=⟨K⟩
instance:TZ be 365 [.int .i64 0,.int .u64 0,.int .i64 0,.string ⟨dN []⟩,.string ⟨dN []⟩,.int .u64 0,.int .i64 0,.int .i64 0,.int .i64 0,.string ⟨dN []⟩,.int .i64 0,.int .i64 0,.int .i64 0,.int .u32 0,.int .i64 0,.int .i64 0]:=⟨K⟩
instance:TA be 382 aP:=⟨K⟩
instance:jH be 382 256:=⟨K⟩
instance:vA be 388 .u64:=⟨underlying388⟩
instance:TZ be 389 [.int .u8 0,.int .u8 0,.int .u8 0,.int .u8 0,.int .u8 0,.int .u8 0,.int .u8 0,.int .u8 0,.int .u8 0,.int .u8 0,.int .u8 0,.int .u8 0,.int .u8 0,.int .u8 0,.int .u8 0,.int .u8 0,.int .u8 0,.int .u8 0,.int .u8 0,.int .u8 0,.int .u8 0,.int .u8 0,.int .u8 0,.int .u8 0]:=⟨K⟩
instance:TF be 404 0 0 1 aQ:=cU underlying404
instance:TF be 404 1 1 1 aQ:=cU underlying404
instance:TF be 404 2 2 1 aQ:=cU underlying404
instance:uw be 404 [(0,1),(1,1),(2,1)]:=⟨_,underlying404,K⟩
instance:TA be 404 aP:=⟨K⟩
instance:jH be 404 3:=⟨K⟩
instance:Ap be 404 24:=⟨K⟩
instance:TZ be 404 [.bool aQ,.int .i64 0,.int .i64 0]:=⟨K⟩
instance:TZ be 411 [.nilFunc,.nilFunc,.nilFunc,.nilFunc,.nilFunc,.nilFunc]:=⟨K⟩
instance:qQ be 416 153:=⟨underlying416⟩
instance:TA be 416 aQ:=⟨K⟩
instance:jH be 416 1:=⟨K⟩
instance:qQ be 438 87:=⟨underlying438⟩
instance:qQ be 464 149:=⟨underlying464⟩
instance:TA be 464 aQ:=⟨K⟩
instance:jH be 464 1:=⟨K⟩
instance:TF be 469 0 0 14 aP:=cU underlying469
instance:TF be 469 1 14 1 aQ:=cU underlying469
instance:TF be 469 2 15 1 aQ:=cU underlying469
instance:uw be 469 [(0,14),(14,1),(15,1)]:=⟨_,underlying469,K⟩
instance:jH be 469 16:=⟨K⟩
instance:TZ be 469 [.int .i64 0,.int .u64 0,.int .i64 0,.string ⟨dN []⟩,.string ⟨dN []⟩,.int .u64 0,.int .i64 0,.int .i64 0,.int .i64 0,.string ⟨dN []⟩,.int .i64 0,.int .i64 0,.int .i64 0,.int .u32 0,.int .i64 0,.int .i64 0]:=⟨K⟩
instance:vA be 476 .i64:=⟨underlying476⟩
instance:TA be 489 aQ:=⟨K⟩
instance:TF be 491 0 0 1 aQ:=cU underlying491
instance:TF be 491 1 1 1 aQ:=cU underlying491
instance:uw be 491 [(0,1),(1,1)]:=⟨_,underlying491,K⟩
instance:TA be 491 aP:=⟨K⟩
instance:jH be 491 2:=⟨K⟩
instance:TZ be 491 [.bool aQ,.nilFunc]:=⟨K⟩
instance:TA be 492 aP:=⟨K⟩
instance:jH be 492 12:=⟨K⟩
instance:TZ be 492 [.bool aQ,.nilFunc,.bool aQ,.nilFunc,.bool aQ,.nilFunc,.bool aQ,.nilFunc,.bool aQ,.nilFunc,.bool aQ,.nilFunc]:=⟨K⟩
instance:TA be 495 aQ:=⟨K⟩
instance:jH be 495 1:=⟨K⟩
instance:TZ be 495 [.nilFunc]:=⟨K⟩
instance:zV be 501 139 280:=⟨underlying501⟩
instance:TA be 501 aQ:=⟨K⟩
instance:jH be 501 1:=⟨K⟩
instance:TZ be 501 [.map aO]:=⟨K⟩
instance:zV be 502 153 3:=⟨underlying502⟩
instance:TA be 502 aQ:=⟨K⟩
instance:zV be 519 139 3:=⟨underlying519⟩
instance:TF be 527 0 0 1 aQ:=cU underlying527
instance:TF be 527 1 1 1 aQ:=cU underlying527
instance:uw be 527 [(0,1),(1,1)]:=⟨_,underlying527,K⟩
instance:TZ be 527 [.slice aO 0 0,.bool aQ]:=⟨K⟩
instance:TA be 528 aQ:=⟨K⟩
instance:jH be 528 1:=⟨K⟩
instance:TZ be 528 [.nilFunc]:=⟨K⟩
instance:zV be 532 9 151:=⟨underlying532⟩
instance:TA be 532 aQ:=⟨K⟩
instance:uw be 547 [(0,1),(1,1),(2,1)]:=⟨_,underlying547,K⟩
instance:TZ be 547 [.string ⟨dN []⟩,.string ⟨dN []⟩,.nilIface]:=⟨K⟩
instance:TA be 561 aQ:=⟨K⟩
instance:FR be 4 [.tmp 2]:=⟨_,func4,U⟩
instance:FC be 4 126 (Ky f4):=⟨_,func4,ntmps4,U⟩
instance:FA 6 f6 19:=bC
instance:FA 7 f7 44:=bC
instance:FA 8 f8 74:=bC
instance:FA 9 f9 26:=bC
instance:FA 10 f10 246:=bC
instance:FA 11 f11 13:=bC
instance:FA 12 f12 19:=bC
instance:FA 13 f13 272:=bC
instance:FA 14 f14 286:=bC
instance:FA 17 f17 41:=bC
instance:FA 18 f18 19:=bC
instance:FA 19 f19 33:=bC
instance:FA 20 f20 14:=bC
instance:FA 21 f21 9:=bC
instance:FA 22 f22 7:=bC
instance:FA 23 f23 11:=bC
instance:FA 24 f24 8:=bC
instance:FA 25 f25 11:=bC
instance:FA 26 f26 6:=bC
instance:FA 27 f27 9:=bC
instance:FA 28 f28 17:=bC
instance:FA 29 f29 78:=bC
instance:FA 30 f30 5:=bC
instance:FA 31 f31 66:=bC
instance:FA 32 f32 7:=bC
instance:FA 33 f33 53:=bC
instance:FA 34 f34 11:=bC
instance:FA 35 f35 20:=bC
instance:FA 36 f36 20:=bC
instance:FA 37 f37 13:=bC
instance:FA 38 f38 20:=bC
instance:FA 39 f39 48:=bC
instance:FA 40 f40 39:=bC
instance:FA 41 f41 28:=bC
instance:FA 42 f42 7:=bC
instance:FA 43 f43 40:=bC
instance:FA 44 f44 77:=bC
instance:FA 45 f45 28:=bC
instance:FA 46 f46 31:=bC
instance:FA 47 f47 4:=bC
instance:FA 48 f48 14:=bC
instance:FA 49 f49 92:=bC
instance:FA 50 f50 29:=bC
instance:CF be 52:=⟨call52⟩
instance:FA 53 f53 8:=bC
instance:FA 54 f54 6:=bC
instance:FA 55 f55 8:=bC
instance:FA 56 f56 9:=bC
instance:CF be 57:=⟨call57⟩
instance:FA 58 f58 117:=bC
instance:FA 59 f59 20:=bC
instance:FA 60 f60 41:=bC
instance:FA 61 f61 19:=bC
instance:FA 62 f62 38:=bC
instance:FA 63 f63 8:=bC
instance:FA 64 f64 27:=bC
instance:FA 65 f65 13:=bC
instance:FA 66 f66 39:=bC
instance:FA 67 f67 40:=bC
instance:FA 68 f68 47:=bC
instance:CF be 69:=⟨call69⟩
instance:CF be 70:=⟨call70⟩
instance:CF be 71:=⟨call71⟩
instance:FA 72 f72 14:=bC
instance:FA 73 f73 19:=bC
instance:FA 74 f74 11:=bC
instance:FA 75 f75 58:=bC
instance:FA 76 f76 24:=bC
instance:FA 77 f77 9:=bC
instance:FA 78 f78 76:=bC
instance:FA 79 f79 21:=bC
instance:FA 80 f80 9:=bC
instance:FA 81 f81 35:=bC
instance:FA 82 f82 10:=bC
instance:FA 83 f83 34:=bC
instance:FA 84 f84 34:=bC
instance:FA 85 f85 29:=bC
instance:FA 89 f89 66:=bC
instance:FA 90 f90 21:=bC
instance:FA 93 f93 35:=bC
instance:FA 94 f94 26:=bC
instance:FA 95 f95 28:=bC
instance:FA 97 f97 26:=bC
instance:FA 98 f98 62:=bC
instance:FA 99 f99 16:=bC
instance:FA 100 f100 11:=bC
instance:FA 101 f101 10:=bC
instance:FA 102 f102 29:=bC
instance:FA 103 f103 8:=bC
instance:FA 104 f104 8:=bC
instance:FA 105 f105 8:=bC
instance:FA 106 f106 22:=bC
instance:FA 107 f107 22:=bC
instance:FA 108 f108 9:=bC
instance:FA 109 f109 8:=bC
instance:FA 110 f110 15:=bC
instance:FA 111 f111 8:=bC
instance:FA 112 f112 20:=bC
instance:FA 113 f113 18:=bC
instance:FA 114 f114 149:=bC
instance:FA 115 f115 32:=bC
instance:FA 116 f116 31:=bC
instance:FA 117 f117 12:=bC
instance:CF be 118:=⟨call118⟩
instance:FA 119 f119 9:=bC
instance:FA 120 f120 7:=bC
instance:FA 121 f121 166:=bC
instance:FA 122 f122 46:=bC
instance:FA 123 f123 38:=bC
instance:FA 124 f124 127:=bC
instance:FA 125 f125 5:=bC
instance:FA 126 f126 63:=bC
instance:FA 127 f127 19:=bC
instance:FA 134 f134 4:=bC
instance:FA 135 f135 125:=bC
instance:FA 136 f136 107:=bC
instance:FA 137 f137 7:=bC
instance:FA 138 f138 19:=bC
instance:FA 139 f139 24:=bC
instance:FA 140 f140 19:=bC
instance:FA 141 f141 71:=bC
instance:FA 142 f142 25:=bC
instance:FA 143 f143 9:=bC
instance:FA 144 f144 150:=bC
instance:FA 145 f145 4:=bC
instance:FA 146 f146 4:=bC
instance:FA 151 f151 34:=bC
instance:FA 152 f152 8:=bC
instance:FA 154 f154 43:=bC
instance:CF be 155:=⟨call155⟩
instance:FA 156 f156 8:=bC
instance:FA 157 f157 17:=bC
instance:FA 158 f158 41:=bC
instance:FA 159 f159 32:=bC
instance:FA 160 f160 39:=bC
instance:FA 161 f161 9:=bC
instance:FA 162 f162 4:=bC
instance:FA 164 f164 4:=bC
instance:FA 165 f165 28:=bC
instance:FA 166 f166 19:=bC
instance:CF be 167:=⟨call167⟩
instance:FA 168 f168 35:=bC
instance:FA 169 f169 57:=bC
instance:FA 170 f170 9:=bC
instance:FA 171 f171 129:=bC
instance:FA 172 f172 20:=bC
instance:FA 173 f173 8:=bC
instance:FA 174 f174 8:=bC
instance:FA 175 f175 6:=bC
instance:FA 176 f176 87:=bC
instance:FA 177 f177 52:=bC
instance:FA 178 f178 54:=bC
instance:FA 179 f179 38:=bC
instance:FA 180 f180 9:=bC
instance:FA 181 f181 7:=bC
instance:FA 182 f182 8:=bC
instance:FA 183 f183 11:=bC
instance:FA 184 f184 11:=bC
instance:FA 185 f185 26:=bC
instance:FA 186 f186 25:=bC
instance:FA 187 f187 32:=bC
instance:FA 188 f188 37:=bC
instance:FA 189 f189 9:=bC
instance:FA 201 f201 17:=bC
instance:FA 202 f202 33:=bC
instance:FA 203 f203 48:=bC
instance:FA 204 f204 50:=bC
instance:FA 205 f205 29:=bC
instance:FA 206 f206 12:=bC
instance:FA 207 f207 35:=bC
instance:FA 208 f208 93:=bC
instance:FA 209 f209 29:=bC
instance:FA 210 f210 9:=bC
instance:FA 211 f211 6:=bC
instance:FA 212 f212 56:=bC
instance:FA 213 f213 36:=bC
instance:FA 214 f214 80:=bC
instance:FA 215 f215 33:=bC
instance:FA 216 f216 22:=bC
instance:FA 217 f217 16:=bC
instance:FA 218 f218 35:=bC
instance:FA 219 f219 112:=bC
instance:FA 220 f220 34:=bC
instance:FA 221 f221 63:=bC
instance:FA 222 f222 86:=bC
instance:FA 223 f223 16:=bC
instance:FA 224 f224 42:=bC
instance:FA 225 f225 6:=bC
instance:FA 226 f226 57:=bC
instance:FA 227 f227 32:=bC
instance:FA 228 f228 10:=bC
instance:FA 229 f229 10:=bC
instance:FA 230 f230 43:=bC
instance:FA 231 f231 43:=bC
instance:FA 232 f232 38:=bC
instance:FA 233 f233 30:=bC
instance:FA 238 f238 143:=bC
instance:FA 243 f243 21:=bC
instance:FA 244 f244 16:=bC
instance:FA 245 f245 22:=bC
instance:FA 249 f249 43:=bC
instance:FA 250 f250 8:=bC
instance:CF be 251:=⟨call251⟩
instance:CF be 252:=⟨call252⟩
instance:CF be 253:=⟨call253⟩
instance:FA 254 f254 102:=bC
instance:FA 255 f255 5:=bC
instance:CF be 256:=⟨call256⟩
instance:FA 257 f257 14:=bC
instance:FA 259 f259 14:=bC
instance:FA 260 f260 11:=bC
instance:FA 261 f261 9:=bC
instance:FA 262 f262 24:=bC
instance:FA 263 f263 8:=bC
instance:FA 264 f264 46:=bC
instance:FA 265 f265 19:=bC
instance:FA 266 f266 33:=bC
instance:FA 267 f267 31:=bC
instance:FA 268 f268 23:=bC
instance:FA 269 f269 74:=bC
instance:FA 270 f270 19:=bC
instance:FA 271 f271 8:=bC
instance:FA 272 f272 9:=bC
instance:FA 273 f273 19:=bC
instance:FA 274 f274 25:=bC
instance:FA 275 f275 9:=bC
instance:FA 276 f276 11:=bC
instance:FA 277 f277 23:=bC
instance:FA 278 f278 11:=bC
instance:FA 279 f279 32:=bC
instance:FA 280 f280 49:=bC
instance:FA 281 f281 19:=bC
instance:FA 282 f282 50:=bC
instance:FA 283 f283 48:=bC
instance:FA 284 f284 4:=bC
instance:CF be 285:=⟨call285⟩
instance:FA 286 f286 10:=bC
instance:FA 287 f287 84:=bC
instance:FA 288 f288 64:=bC
instance:FA 289 f289 33:=bC
instance:FA 290 f290 15:=bC
instance:FA 291 f291 21:=bC
instance:FA 292 f292 15:=bC
instance:FA 293 f293 18:=bC
instance:FA 294 f294 172:=bC
instance:FA 295 f295 125:=bC
instance:FA 296 f296 16:=bC
instance:FA 304 f304 4:=bC
instance:FA 305 f305 32:=bC
instance:FA 306 f306 42:=bC
instance:FA 307 f307 17:=bC
instance:FA 308 f308 49:=bC
instance:FA 309 f309 22:=bC
instance:FA 310 f310 21:=bC
instance:FA 311 f311 29:=bC
instance:FA 312 f312 9:=bC
instance:FA 313 f313 15:=bC
instance:FA 314 f314 19:=bC
instance:FA 315 f315 29:=bC
instance:FA 316 f316 26:=bC
instance:FA 317 f317 6:=bC
instance:FA 318 f318 18:=bC
instance:FA 319 f319 20:=bC
instance:FA 320 f320 20:=bC
instance:FA 321 f321 22:=bC
instance:FA 322 f322 9:=bC
instance:FA 323 f323 30:=bC
instance:FA 324 f324 29:=bC
instance:FA 325 f325 22:=bC
instance:FA 326 f326 38:=bC
instance:FA 327 f327 36:=bC
instance:FA 328 f328 122:=bC
instance:FA 329 f329 35:=bC
instance:FA 330 f330 9:=bC
instance:FA 331 f331 10:=bC
instance:FA 332 f332 20:=bC
instance:FA 333 f333 8:=bC
instance:FA 334 f334 37:=bC
instance:FA 335 f335 42:=bC
instance:FA 336 f336 57:=bC
instance:FA 337 f337 9:=bC
instance:FA 338 f338 10:=bC
instance:FA 339 f339 19:=bC
instance:FA 340 f340 36:=bC
instance:FA 341 f341 4:=bC
instance:FA 342 f342 9:=bC
instance:FA 347 f347 10:=bC
instance:FA 351 f351 11:=bC
instance:FA 352 f352 11:=bC
instance:FA 359 f359 8:=bC
instance:FA 360 f360 8:=bC
instance:FA 361 f361 13:=bC
instance:FA 364 f364 63:=bC
instance:FA 365 f365 8:=bC
instance:FA 366 f366 7:=bC
instance:FA 367 f367 8:=bC
instance:FA 368 f368 15:=bC
instance:FA 369 f369 19:=bC
instance:FA 370 f370 5:=bC
instance:FA 371 f371 5:=bC
instance:FA 372 f372 30:=bC
instance:FA 373 f373 21:=bC
instance:FA 374 f374 36:=bC
instance:FA 375 f375 34:=bC
instance:FA 376 f376 40:=bC
instance:FA 377 f377 4:=bC
instance:FA 378 f378 14:=bC
instance:FA 379 f379 12:=bC
instance:FA 380 f380 4:=bC
instance:FA 381 f381 14:=bC
instance:FA 383 f383 19:=bC
instance:FA 384 f384 17:=bC
instance:FA 385 f385 53:=bC
instance:FA 386 f386 9:=bC
instance:FA 387 f387 42:=bC
instance:FA 388 f388 24:=bC
instance:FA 389 f389 18:=bC
instance:FA 390 f390 5:=bC
instance:FA 392 f392 30:=bC
instance:FA 393 f393 8:=bC
instance:FA 396 f396 14:=bC
instance:FA 397 f397 13:=bC
instance:FA 398 f398 33:=bC
instance:FA 399 f399 8:=bC
instance:FA 400 f400 9:=bC
instance:FA 401 f401 29:=bC
instance:FA 402 f402 6:=bC
instance:FA 403 f403 6:=bC
instance:FA 404 f404 20:=bC
instance:FA 405 f405 8:=bC
instance:FA 406 f406 37:=bC
instance:FA 407 f407 33:=bC
instance:FA 408 f408 30:=bC
instance:FA 409 f409 13:=bC
instance:FA 410 f410 10:=bC
instance:FA 411 f411 16:=bC
instance:FA 412 f412 31:=bC
instance:FA 413 f413 9:=bC
instance:FA 414 f414 63:=bC
instance:FA 415 f415 6:=bC
instance:FA 416 f416 19:=bC
instance:FA 417 f417 21:=bC
instance:FA 418 f418 42:=bC
instance:FA 419 f419 4:=bC
instance:FA 420 f420 63:=bC
instance:FA 421 f421 29:=bC
instance:FA 422 f422 58:=bC
instance:FA 423 f423 19:=bC
instance:CF be 427:=⟨call427⟩
instance:FA 430 f430 14:=bC
instance:FA 441 f441 53:=bC
instance:FA 442 f442 220:=bC
instance:FA 444 f444 13:=bC
instance:FA 445 f445 33:=bC
instance:FA 446 f446 16:=bC
instance:FA 447 f447 9:=bC
instance:FA 448 f448 42:=bC
instance:FA 449 f449 36:=bC
instance:FA 450 f450 14:=bC
instance:FA 451 f451 5:=bC
instance:CF be 452:=⟨call452⟩
instance:FA 453 f453 14:=bC
instance:FA 462 f462 19:=bC
instance:FA 464 f464 51:=bC
instance:FA 466 f466 35:=bC
instance:FA 467 f467 16:=bC
instance:FA 468 f468 6:=bC
instance:FA 470 f470 67:=bC
instance:FA 471 f471 53:=bC
instance:FA 472 f472 220:=bC
instance:FA 473 f473 5:=bC
instance:FA 474 f474 8:=bC
instance:FA 475 f475 14:=bC
instance:FA 476 f476 53:=bC
instance:FA 477 f477 220:=bC
instance:FA 484 f484 58:=bC
instance:FA 485 f485 13:=bC
instance:FA 494 f494 19:=bC
instance:FA 495 f495 5:=bC
instance:FA 496 f496 58:=bC
instance:FA 498 f498 58:=bC
instance:FA 500 f500 38:=bC
instance:FA 512 f512 38:=bC
instance:FA 513 f513 38:=bC
end
end Go.Proofs
namespace Go.Proofs
open Go.Sl
set_option maxRecDepth 8000
instance:Tj be:=⟨by rfl⟩
def ay7(l:Y au)(v:aR)(B:Y bG):Prop:=∃a c,v=.slice a l.length c/\B=[own 5 1 a l.length c (l.map gT)]
def tT(x:az):aR:=.int .u64 x.toNat
def UY(x:av):aR:=.int .u32 x.toNat
def bR(x:ae):aR:=.int .i64 x
abbrev bT3:Rp az:=cy λx=>[tT x]
structure oI(q:Prop):Prop where out:q
theorem xS{p q:Prop}(k:q)(h:oI q->p:=by(intro hq;(repeat(first|refine X.go 60 rfl rfl ?_|(show X _ _ _ (aN (_,⟨_,.load _ _,_,_,_,_⟩::_)) _ _ _ _;first|refine bl5 rfl rfl rfl cE ?_|refine SZ rfl rfl rfl cE ?_|refine bB1 rfl rfl rfl cE ?_)|(show X _ _ _ (aN (_,⟨_,.binOp _ _ _ _ _,_,_,_,_⟩::_)) _ _ _ _;first|refine X.add rfl rfl rfl rfl bw bw ?_|refine X.sub rfl rfl rfl rfl bw bw ?_|refine SQ rfl rfl rfl rfl rfl eK ?_|refine bl7 rfl rfl rfl rfl rfl rfl ?_|refine X.seq rfl rfl rfl rfl ?_|refine bC3 rfl rfl rfl rfl ?_|refine bn2 rfl rfl rfl rfl rfl ?_|refine bC0 rfl rfl rfl rfl (by first|omega|(simp;omega)) ?_|refine X.mul rfl rfl rfl rfl bw bw ?_|refine bl1 rfl rfl rfl rfl rfl ?_|refine bB7 rfl rfl rfl rfl rfl ?_|refine bo5 rfl rfl rfl rfl rfl ?_)|(show X _ _ _ (aN (_,⟨_,.fieldAddr _ _ _,_,_,_,_⟩::_)) _ _ _ _;first|refine X.fa rfl rfl rfl ?_)|(show X _ _ _ (aN (_,⟨_,.call ⟨.builtin _,_,_⟩,_,_,_,_⟩::_)) _ _ _ _;first|refine bo3 rfl rfl rfl ?_|refine Mj rfl rfl rfl ?_|refine bn9 rfl rfl rfl rfl ?_|refine bo6 rfl rfl rfl rfl ?_)|(show X _ _ _ (aN (_,⟨_,.call ⟨.value _,_,_⟩,_,_,_,_⟩::_)) _ _ _ _;first|refine En hG rfl rfl rfl ?_)|(show X _ _ _ (aN (_,⟨_,.field _ _ _,_,_,_,_⟩::_)) _ _ _ _;first|refine bB3 rfl rfl rfl cE ?_|refine bo0 rfl rfl rfl cE ?_)|(show X _ _ _ (aN (_,⟨_,.store _ _ _,_,_,_,_⟩::_)) _ _ _ _;first|refine X.st rfl rfl rfl rfl cE cE cE ?_)|(show X _ _ _ (aN (_,⟨_,.pick _ _ _,_,_,_,_⟩::_)) _ _ _ _;first|refine aw3 rfl rfl rfl rfl ?_|refine aw0 rfl rfl rfl rfl ?_)|(show X _ _ _ (aN (_,⟨_,.unOp _ _ _,_,_,_,_⟩::_)) _ _ _ _;first|refine bT2 rfl rfl rfl rfl ?_)|(show X _ _ _ (aN (_,⟨_,.convert _ _ _,_,_,_,_⟩::_)) _ _ _ _;first|refine bo4 rfl rfl rfl ?_|refine bl4 rfl rfl rfl (by first|assumption|(simp;done)|omega) ?_)|(show X _ _ _ (aN (_,⟨_,.build _ _,_,_,_,_⟩::_)) _ _ _ _;first|refine bC1 rfl rfl rfl cE ?_)|(show X _ _ _ (aN (_,⟨_,_,_,_,_,aN _⟩::_)) _ _ _ _;first|refine aw6 rfl rfl ?_|refine X' rfl rfl rfl ?_)|(show X _ _ _ aO (.it (.code (.exit _)::_)) _ _ _;first|refine X.exit rfl ?_)|(show X _ _ _ aO (.it (.code (.cond _ _ _)::_)) _ _ _;first|refine Kr rfl ?_|refine El rfl ?_)|(show X _ _ _ aO (.dr _ _ _ _ _) _ _ _;first|refine nU rfl rfl rfl rfl ?_|refine Kj rfl rfl ?_)|(show X _ _ _ aO (.uv _ _ _ _ _ _) _ _ _;first|refine X.uv ?_|refine bm8 rfl ?_)|refine X.go 7 rfl rfl ?_|refine X.go 1 rfl rfl ?_));exact hq.out)):p:=h ⟨k⟩
end Go.Proofs
namespace Go.Sl
theorem SV{P:aT}{G:dA}{f n:ab}{c:Code}[hf:FC P f n c]{A:Y bG}{R:aZ->Y bG->Prop}(h:∀b O,nL b f->G.on O->X P b O aO (.it [.code c]) ⟨n,Aq 0 [],[]⟩ A R):TR P G f #[] A R:=TR.go (us:=[]) (bp _) h
theorem dH{P:aT}{G:dA}{f n:ab}{c:Code}[hf:FC P f n c]{a:aR}{A:Y bG}{R:aZ->Y bG->Prop}(e:Nat.ble 1 n=aP)(h:∀b O,nL b f->G.on O->X P b O aO (.it [.code c]) ⟨n,Aq 0 [a],[]⟩ A R):TR P G f #[a] A R:=TR.go (us:=[a]) (bH e) h
theorem bZ{P:aT}{G:dA}{f n:ab}{c:Code}[hf:FC P f n c]{a a2:aR}{A:Y bG}{R:aZ->Y bG->Prop}(e:Nat.ble 2 n=aP)(h:∀b O,nL b f->G.on O->X P b O aO (.it [.code c]) ⟨n,Aq 0 [a,a2],[]⟩ A R):TR P G f #[a,a2] A R:=TR.go (us:=[a,a2]) (bH e) h
theorem jy{P:aT}{G:dA}{f n:ab}{c:Code}[hf:FC P f n c]{a a2 a3:aR}{A:Y bG}{R:aZ->Y bG->Prop}(e:Nat.ble 3 n=aP)(h:∀b O,nL b f->G.on O->X P b O aO (.it [.code c]) ⟨n,Aq 0 [a,a2,a3],[]⟩ A R):TR P G f #[a,a2,a3] A R:=TR.go (us:=[a,a2,a3]) (bH e) h
theorem cP{P:aT}{b:bc}{O:de}{k:Kt}{N:ab}{vs:Y (ab×aR)}{ds:Y Deferred}{H:Y bG}{R:aZ->Y bG->Prop}{ops:ar aW}{rest:Y aW}{d ty:ab}{pos:aC}{af:ar Edge}{g:ah (ab×ai)}[hk:Kt.pC k]{G:dA}{f:ab}{xs:Y aY}{us:Y aR}{sU:ar TypeId}{A F:Y bG}{Q:aR->Y bG->Prop}(hT:TR P G f us.toArray A (dC Q))[uD:CF P f]
 (h:∀v B,Q v B->X P b O (aN (ops,rest)) k ⟨N,(d,v)::vs,ds⟩ (B++F) R)(hG:G.on O:=by exact hG)
 (hw:bO ops vs ⟨aN d,.call ⟨.value (.func f),xs.toArray,sU⟩,ty,pos,af,g⟩=aN aP:=by exact U)(hn:bM d N=aP:=by exact U)
 (hx:oO vs xs=aN us:=by exact U)(hA:bS H (A++F):=by first|exact bS.es|exact eC|exact bS.refl _):
 X P b O (aN (ops,⟨aN d,.call ⟨.value (.func f),xs.toArray,sU⟩,ty,pos,af,g⟩::rest)) k ⟨N,vs,ds⟩ H R:=cM hG hT hw hn hx hA h
theorem X.W{P:aT}{b:bc}{O:de}{k:Kt}{N:ab}{vs BP:Y (ab×aR)}{ds:Y Deferred}{H Hs':Y bG}{R:aZ->Y bG->Prop}{c:ah (ar aW×Y aW)}(h:X P b O c k ⟨N,BP,ds⟩ Hs' R)
 (hv:Sub BP vs:=by first|exact Sub.of rfl|(repeat(first|exact Sub.nil _|refine Sub.cons rfl ?_|refine Sub.cons (dI rfl (by simp[bR])) ?_|refine Sub.cons (dI rfl (by omega)) ?_|refine Sub.cons (dI rfl (by simp[bR];omega)) ?_)))
 (hH:bS H Hs':=by first|exact bA|exact bS.refl _):X P b O c k ⟨N,vs,ds⟩ H R:=X.less h hv hH
theorem cT{P:aT}{b:bc}{O:de}{N:ab}{vs:Y (ab×aR)}{H:Y bG}{R:aZ->Y bG->Prop}{k:Y Item}{f:ab}{rs:Y ResultVar}(nA:nL b f)[hf:FR P f rs]{l:Y aR}(hl:kK P ⟨N,vs,[]⟩ H rs l){B:Y bG}(h:R (.returned (mv l)) B)(hE:bS H B:=by first|exact bA|exact bS.nil _|exact bS.refl _):X P b O aO (.it (.code .ret::k)) ⟨N,vs,[]⟩ H R:=X.ret nA hl ⟨_,h,hE⟩
end Go.Sl
namespace Go.Proofs
open Go.Sl
structure Tl{α:Type}(l:α)(q:Prop):Prop where out:q
abbrev ML{α:Type}{l:α}{q:Prop}(_:Tl l q):α:=l
theorem xD{p q:Prop}(k:q)(h:oI q->p:=by(intro hq;dsimp only[bh,bk,bj];refine xS ?_;exact hq.out)):p:=h ⟨k⟩
theorem s1_{m:Y (ab×aR)}{a:ab}{q:aR}(h0:lk m a=aN q):Sub [(a,q)] m:=Sub.cons h0 (Sub.nil _)
theorem s2_{m:Y (ab×aR)}{a b:ab}{q r:aR}(h0:lk m a=aN q)(h1:lk m b=aN r):Sub [(a,q),(b,r)] m:=Sub.cons h0 (Sub.cons h1 (Sub.nil _))
theorem s3_{m:Y (ab×aR)}{a b c:ab}{q r s:aR}(h0:lk m a=aN q)(h1:lk m b=aN r)(h2:lk m c=aN s):Sub [(a,q),(b,r),(c,s)] m:=Sub.cons h0 (Sub.cons h1 (Sub.cons h2 (Sub.nil _)))
theorem Qm{m:Y (ab×aR)}{a b c d:ab}{q r s t:aR}(h0:lk m a=aN q)(h1:lk m b=aN r)(h2:lk m c=aN s)(h3:lk m d=aN t):Sub [(a,q),(b,r),(c,s),(d,t)] m:=Sub.cons h0 (Sub.cons h1 (Sub.cons h2 (Sub.cons h3 (Sub.nil _))))
theorem MN{m:Y (ab×aR)}{a b c d e:ab}{q r s t u:aR}(h0:lk m a=aN q)(h1:lk m b=aN r)(h2:lk m c=aN s)(h3:lk m d=aN t)(h4:lk m e=aN u):Sub [(a,q),(b,r),(c,s),(d,t),(e,u)] m:=Sub.cons h0 (Sub.cons h1 (Sub.cons h2 (Sub.cons h3 (Sub.cons h4 (Sub.nil _)))))
theorem s6_{m:Y (ab×aR)}{a b c d e f:ab}{q r s t u v:aR}(h0:lk m a=aN q)(h1:lk m b=aN r)(h2:lk m c=aN s)(h3:lk m d=aN t)(h4:lk m e=aN u)(h5:lk m f=aN v):Sub [(a,q),(b,r),(c,s),(d,t),(e,u),(f,v)] m:=Sub.cons h0 (Sub.cons h1 (Sub.cons h2 (Sub.cons h3 (Sub.cons h4 (Sub.cons h5 (Sub.nil _))))))
theorem s7_{m:Y (ab×aR)}{a b c d e f g:ab}{q r s t u v w:aR}(h0:lk m a=aN q)(h1:lk m b=aN r)(h2:lk m c=aN s)(h3:lk m d=aN t)(h4:lk m e=aN u)(h5:lk m f=aN v)(h6:lk m g=aN w):Sub [(a,q),(b,r),(c,s),(d,t),(e,u),(f,v),(g,w)] m:=Sub.cons h0 (Sub.cons h1 (Sub.cons h2 (Sub.cons h3 (Sub.cons h4 (Sub.cons h5 (Sub.cons h6 (Sub.nil _)))))))
theorem s8_{m:Y (ab×aR)}{a b c d e f g h:ab}{q r s t u v w x:aR}(h0:lk m a=aN q)(h1:lk m b=aN r)(h2:lk m c=aN s)(h3:lk m d=aN t)(h4:lk m e=aN u)(h5:lk m f=aN v)(h6:lk m g=aN w)(h7:lk m h=aN x):Sub [(a,q),(b,r),(c,s),(d,t),(e,u),(f,v),(g,w),(h,x)] m:=Sub.cons h0 (Sub.cons h1 (Sub.cons h2 (Sub.cons h3 (Sub.cons h4 (Sub.cons h5 (Sub.cons h6 (Sub.cons h7 (Sub.nil _))))))))
theorem s9_{m:Y (ab×aR)}{a b c d e f g h i:ab}{q r s t u v w x y:aR}(h0:lk m a=aN q)(h1:lk m b=aN r)(h2:lk m c=aN s)(h3:lk m d=aN t)(h4:lk m e=aN u)(h5:lk m f=aN v)(h6:lk m g=aN w)(h7:lk m h=aN x)(h8:lk m i=aN y):Sub [(a,q),(b,r),(c,s),(d,t),(e,u),(f,v),(g,w),(h,x),(i,y)] m:=Sub.cons h0 (Sub.cons h1 (Sub.cons h2 (Sub.cons h3 (Sub.cons h4 (Sub.cons h5 (Sub.cons h6 (Sub.cons h7 (Sub.cons h8 (Sub.nil _)))))))))
theorem az1{m:Y (ab×aR)}{a b c d e f g h i j:ab}{q r s t u v w x y z:aR}(h0:lk m a=aN q)(h1:lk m b=aN r)(h2:lk m c=aN s)(h3:lk m d=aN t)(h4:lk m e=aN u)(h5:lk m f=aN v)(h6:lk m g=aN w)(h7:lk m h=aN x)(h8:lk m i=aN y)(h9:lk m j=aN z):Sub [(a,q),(b,r),(c,s),(d,t),(e,u),(f,v),(g,w),(h,x),(i,y),(j,z)] m:=Sub.cons h0 (Sub.cons h1 (Sub.cons h2 (Sub.cons h3 (Sub.cons h4 (Sub.cons h5 (Sub.cons h6 (Sub.cons h7 (Sub.cons h8 (Sub.cons h9 (Sub.nil _))))))))))
theorem xR{p:Prop}(h:p:=by refine xS ?_;exact cT hb (.tmps U) ⟨U,U⟩):p:=h
theorem xF{p:Prop}(h:p:=by refine xS ?_;exact X.fin hb (.tmps U) ⟨_,⟨U,U⟩,bA⟩):p:=h
theorem xL(l:Y ab){p q:Prop}(k:q)(h:Tl l q->p:=by(intro hq;apply dB (ML hq) U U U;(intro p hp;refine xS ?_;exact hp);rfl;rfl;dsimp only[ML];exact hq.out)):p:=h ⟨k⟩
theorem xC{r p q:Prop}(t:r)(k:q)(h:oI r->oI q->p:=by(intro ht hq;refine xS ?_;refine cP ht.out ?_;rintro _ _ ⟨rfl,rfl⟩;refine xS ?_;exact hq.out)):p:=h ⟨t⟩ ⟨k⟩
theorem xK{r p q:Prop}(t:r)(k:q)(h:oI r->oI q->p:=by(intro ht hq;refine xS ?_;refine cM hG ht.out U U U eC ?_;rintro _ _ ⟨rfl,rfl⟩;refine xS ?_;exact hq.out)):p:=h ⟨t⟩ ⟨k⟩
theorem xE{r p q:Prop}(t:r)(k:q)(h:oI r->oI q->p:=by(intro ht hq;refine xS ?_;refine cP ht.out ?_;rintro _ _ ⟨rfl,rfl⟩;refine xD ?_;exact hq.out)):p:=h ⟨t⟩ ⟨k⟩
theorem xO{r p q:Prop}(t:r)(k:q)(h:oI r->oI q->p:=by(intro ht hq;refine xS ?_;refine cM hG ht.out U U U eC ?_;rintro _ _ ⟨rfl,rfl⟩;refine xD ?_;exact hq.out)):p:=h ⟨t⟩ ⟨k⟩
theorem xH{r p q:Prop}(t:r)(k:q)(h:oI r->oI q->p:=by(intro ht hq;refine xS ?_;refine cP ht.out ?_;rintro _ _ ⟨rfl,rfl⟩;dsimp only[bh,bk,bj];exact hq.out)):p:=h ⟨t⟩ ⟨k⟩
theorem xQ{r p q:Prop}(t:r)(k:q)(h:oI r->oI q->p:=by(intro ht hq;refine xS ?_;refine cM hG ht.out U U U eC ?_;rintro _ _ ⟨rfl,rfl⟩;dsimp only[bh,bk,bj];exact hq.out)):p:=h ⟨t⟩ ⟨k⟩
theorem xI{r p q:Prop}(t:r)(k:q)(h:oI r->oI q->p:=by(intro ht hq;refine xS ?_;refine cP ht.out ?_;rintro _ _ ⟨rfl,rfl⟩;exact hq.out)):p:=h ⟨t⟩ ⟨k⟩
theorem xU{r p q:Prop}(t:r)(k:q)(h:oI r->oI q->p:=by(intro ht hq;refine xS ?_;refine cM hG ht.out U U U eC ?_;rintro _ _ ⟨rfl,rfl⟩;exact hq.out)):p:=h ⟨t⟩ ⟨k⟩
theorem xT(d:ab){p q r:Prop}(k:q)(l:r)(h:Tl d q->oI r->p:=by(intro hq hr;refine xS ?_;refine X.split (ML hq) U ?_ ?_;(dsimp only[ML];exact hq.out);(dsimp only[ML];exact hr.out))):p:=h ⟨k⟩ ⟨l⟩
theorem xJ{r p q:Prop}(t:r)(k:q)(h:oI r->oI q->p:=by(intro ht hq;refine xS ?_;refine jJ hG ht.out U U U ?_;refine xS ?_;exact hq.out)):p:=h ⟨t⟩ ⟨k⟩
theorem xB{p q r:Prop}(k:q)(l:r)(h:oI q->oI r->p:=by(intro hq hr;refine xS ?_;refine X.cond U ?_ ?_;exact hq.out;exact hr.out)):p:=h ⟨k⟩ ⟨l⟩
theorem yB(c d:Prop){p q r:Prop}(k:c->q)(l:d->r)(h:oI (c->q)->oI (d->r)->p:=by(intro hq hr;refine xS ?_;refine X.cond U ?_ ?_;(intro h;exact hq.out (by first|grind|(simp at h;omega)));(intro h;exact hr.out (by first|grind|(simp at h;omega))))):p:=h ⟨k⟩ ⟨l⟩
theorem yT(i:ab)(c d:Prop){p q r:Prop}(k:c->q)(l:d->r)(h:Tl i (c->q)->oI (d->r)->p:=by(intro hq hr;refine xS ?_;refine X.split (ML hq) U ?_ ?_;(dsimp only[ML];intro h;exact hq.out (by first|grind|(simp at h;omega)));(dsimp only[ML];intro h;exact hr.out (by first|grind|(simp at h;omega))))):p:=h ⟨k⟩ ⟨l⟩
theorem xW{r p:Prop}(t:r)(h:oI r->p:=by(intro hq;refine xS ?_;exact X.W hq.out)):p:=h ⟨t⟩
theorem xA{p q:Prop}(k:q)(h:oI q->p:=by(intro hq;refine xS ?_;refine kq U U ?_;intro b;refine xS ?_;revert b;exact hq.out)):p:=h ⟨k⟩
theorem xP{p q:Prop}(k:q)(h:oI q->p:=by(intro hq;refine xS ?_;refine X.box U U U U ?_;intro b;refine xS ?_;revert b;exact hq.out)):p:=h ⟨k⟩
theorem xZ{p q:Prop}(k:q)(h:oI q->p:=by(intro hq;refine xS ?_;refine me U U (by rfl) (by rfl) (by rfl) (by rfl) (by rfl) (by rfl) ?_;intro b;refine xS ?_;revert b;exact hq.out)):p:=h ⟨k⟩
end Go.Proofs
namespace Go.Proofs
open Go.Sl
set_option maxRecDepth 8000
section
variable(d t:ab)(G:dA)(f:ab)(cap:Y aR)(A:Y bG)(p bm:ab)(M:Y ((Y au)×aR))
def oJ(x y:ae):ae:=if x<y then -1 else if x>y then 1 else 0
def MT(x y:Y au):ae:=if Op.bytesLess x y then -1 else if !(Op.bytesLess x y||x==y)then 1 else 0
theorem IU(x:ae):TR be G 402 #[.int .u64 x] [] (dX (.bool aQ)):=Tm
theorem U0(x y:ae):TR be G 319 #[.int .u64 x,.int .u64 y] [] (dX (bR (oJ x y))):=by
 refine bZ U λb O hb hG=>xS ?_;refine cM hG (IU G x) U U U (A:=[]) (F:=[]) (bS.refl _) ?_;rintro _ _ ⟨rfl,rfl⟩;refine xS ?_;refine cM hG (IU G y) U U U (A:=[]) (F:=[]) (bS.refl _) ?_;exact bp6
theorem IV(x:ae):TR be G 415 #[.int .u32 x] [] (dX (.bool aQ)):=Tm
theorem IW(x y:ae):TR be G 332 #[.int .u32 x,.int .u32 y] [] (dX (bR (oJ x y))):=by
 refine bZ U λb O hb hG=>xS ?_;refine cM hG (IV G x) U U U (A:=[]) (F:=[]) (bS.refl _) ?_;rintro _ _ ⟨rfl,rfl⟩;refine xS ?_;refine cM hG (IV G y) U U U (A:=[]) (F:=[]) (bS.refl _) ?_;exact bp6
theorem IX(x:ae):TR be G 468 #[.int .i64 x] [] (dX (.bool aQ)):=Tm
theorem Cb(x y:ae):TR be G 404 #[.int .i64 x,.int .i64 y] [] (dX (bR (oJ x y))):=by
 refine bZ U λb O hb hG=>xS ?_;refine cM hG (IX G x) U U U (A:=[]) (F:=[]) (bS.refl _) ?_;rintro _ _ ⟨rfl,rfl⟩;refine xS ?_;refine cM hG (IX G y) U U U (A:=[]) (F:=[]) (bS.refl _) ?_;exact bp6
theorem IY(x:Y au):TR be G 403 #[bn x] [] (dX (.bool aQ)):=Tm
theorem U1(x y:Y au):TR be G 320 #[bn x,bn y] [] (dX (bR (MT x y))):=by
 refine bZ U λb O hb hG=>xS ?_;refine cM hG (IY G x) U U U (A:=[]) (F:=[]) (bS.refl _) ?_;rintro _ _ ⟨rfl,rfl⟩;refine xS ?_;refine cM hG (IY G y) U U U (A:=[]) (F:=[]) (bS.refl _) ?_;rintro _ _ ⟨rfl,rfl⟩;refine xB ?_ ?_<;>intro h1
 ·refine xS ?_;exact cT hb (.tmps U) ⟨by grind [mv,bR,MT],U⟩
 ·refine xB ?_ ?_<;>intro h2
  ·refine xS ?_
   refine cT hb (.tmps U) ⟨?_,U⟩
   grind [mv,bR,MT]
  ·refine xS ?_
   refine cT hb (.tmps U) ⟨?_,U⟩
   grind [mv,bR,MT]
def Xy:Y ae->ae
 |[]=>0
 |x::r=>if x≠0 then x else Xy r
theorem MU(l:Y ae)(i:ab)(h:i<l.length):Xy (l.drop i)=if l[i]≠0 then l[i]else Xy (l.drop (i+1)):=by
 rw[bP h,Xy]
abbrev RI:Rp ae:=cy λx=>[bR x]
theorem YP(a:ah aX)(n c:ab)(xs:Y ae)(hn:xs.length=n)(hs:n<=1099511627776):
 TR be G 318 #[.slice a n c] [dp RI 1 a xs] (dX (bR (Xy xs))):=by
 refine dH U λb O hb hG=>xS ?_
 refine fR [3,6,7] [] (ι:={i:ab // i<=n/\Xy xs=Xy (xs.drop i)}) (λi q_=>(8,.int .i64 i.1)::q_) (λi q_=>q_) (λi=>n - i.1) ⟨0,bp _,U⟩ ?_
 rintro⟨i,hi,hE⟩ ih
 dsimp only
 refine xB ?_ ?_<;>intro h
 ·have hi:i<xs.length:=sH;refine xS ?_;refine dJ U U U U U hi hn λbl o=>xS ?_;rw[show bR xs[i]=.int .i64 xs[i]from rfl];refine xB ?_ ?_<;>intro h2
  ·refine xS ?_
   refine cT hb (.tmps U) ⟨?_,U⟩
   grind [MU,mv,bR]
  ·refine xS ?_
   have h3:xs[i]=0:=Cc
   refine X.less (ih ⟨i+1,by omega,?_⟩ oQ) (Sub.of U) (bS.drop _ _)
   grind [MU]
 ·have gj:i=n:=sH;subst gj;refine xS ?_;refine cT hb (.tmps U) ⟨?_,U⟩;rw[hE,cx bw];rfl
structure Place where
 sE:av
 at_:ae
 len:ae
deriving DecidableEq
abbrev Place.cs(p:Place):Y aR:=[.int .u32 p.sE.toNat,.int .i64 p.at_,.int .i64 p.len]
abbrev Place.v(p:Place):aR:=.agg p.cs.toArray
def uH(p q:Place):ae:=Xy [oJ p.sE.toNat q.sE.toNat,oJ p.at_ q.at_,oJ p.len q.len]
theorem Ft(p q:Place):TR be G 321 #[p.v,q.v] [] (dX (bR (uH p q))):=by
 refine bZ U λb O hb hG=>xS ?_;refine X.box U U U U λb1=>?_;refine xP ?_;intro b2;refine ph [0,1,2,3,5,6,7,8,10,11,12,13] [1,0] ?_;refine xL [0,1,2,3,5,6,7,8,10,11,12,13] ?_;refine xJ (IW G _ _) ?_;refine xJ (Cb G _ _) ?_;refine xJ (Cb G _ _) ?_;refine xZ ?_;intro b3;refine jx b3 (λx=>[bR x]) [oJ p.sE.toNat q.sE.toNat,oJ p.at_ q.at_,oJ p.len q.len] U (λ_=>rfl) ?_;refine xJ (YP G _ _ _ [oJ p.sE.toNat q.sE.toNat,oJ p.at_ q.at_,oJ p.len q.len] U dW) ?_;exact xR
theorem p9{α:Type}:∀(l:Y α) (i:ab) (h:i<l.length),(l[i]::l.eraseIdx i).Perm l
 |[],i,h=>by cases h
 |x::r,0,_=>ie _
 |x::r,i+1,h=>by
  have hr:i<r.length:=Au;simp only[fg,List.eraseIdx_cons_succ];exact(fM _ _ _).trans (iJ _ (p9 r i hr))
theorem YR:TR be G 164 #[.map (aN bm)] [] (dC λv B=>∃p,v=.func (.func 259) #[] #[bu p]/\B=[bx p 72 [.map (aN bm)]]):=YS
theorem YU:
 Dq be G 259 [bu p] [bx p 72 [.map (aN bm)],mp bn bm M] (λk:(Y au)=>[bn k]) (λpre=>∃post,(pre++post).Perm (M.map (·.1))) (λys=>ys.Perm (M.map (·.1))):=by
 refine Dq.mk λl I J hY=>?_
 refine bZ U λb O hb hG=>xD ?_
 refine tj U U U λr=>xS ?_
 refine fR [0,5] [0,1] (ι:={q:Y (Y au)×Y ((Y au)×aR)×ah ((Y au)×aR) // (q.1++q.2.1.map (·.1)).Perm (M.map (·.1))}) (λq q_=>q_) (λq q_=>If bn r bm M q.1.2.1 q.1.2.2::I q.1.1::q_) (λq=>q.1.2.1.length) ⟨([],M,aO),ie _⟩ ?_
 rintro⟨⟨pre,S,lJ⟩,hq⟩ ih
 dsimp only at hq ih ⊢
 refine xS ?_
 refine yG U U U (λhS=>?_) (λi hi=>?_)
 ·exact U2
 ·exact mz1
theorem YV:TR be G 162 #[.map (aN bm)] [] (dC λv B=>∃p,v=.func (.func 257) #[] #[bu p]/\B=[bx p 246 [.map (aN bm)]]):=YS
theorem YW:
 Dq be G 257 [bu p] [bx p 246 [.map (aN bm)],mp bn bm M] (λk:(Y au)=>[bn k]) (λpre=>∃post,(pre++post).Perm (M.map (·.1))) (λys=>ys.Perm (M.map (·.1))):=by
 refine Dq.mk λl I J hY=>?_
 refine bZ U λb O hb hG=>xD ?_
 refine tj U U U λr=>xS ?_
 refine fR [0,5] [0,1] (ι:={q:Y (Y au)×Y ((Y au)×aR)×ah ((Y au)×aR) // (q.1++q.2.1.map (·.1)).Perm (M.map (·.1))}) (λq q_=>q_) (λq q_=>If bn r bm M q.1.2.1 q.1.2.2::I q.1.1::q_) (λq=>q.1.2.1.length) ⟨([],M,aO),ie _⟩ ?_
 rintro⟨⟨pre,S,lJ⟩,hq⟩ ih
 dsimp only at hq ih ⊢
 refine xS ?_
 refine yG U U U (λhS=>?_) (λi hi=>?_)
 ·exact U2
 ·exact mz1
theorem YX:TR be G 284 #[.map (aN bm)] [] (dC λv B=>∃p,v=.func (.func 381) #[] #[bu p]/\B=[bx p 286 [.map (aN bm)]]):=YS
theorem YY:
 Dq be G 381 [bu p] [bx p 286 [.map (aN bm)],mp bn bm M] (λk:(Y au)=>[bn k]) (λpre=>∃post,(pre++post).Perm (M.map (·.1))) (λys=>ys.Perm (M.map (·.1))):=by
 refine Dq.mk λl I J hY=>?_
 refine bZ U λb O hb hG=>xD ?_
 refine tj U U U λr=>xS ?_
 refine fR [0,5] [0,1] (ι:={q:Y (Y au)×Y ((Y au)×aR)×ah ((Y au)×aR) // (q.1++q.2.1.map (·.1)).Perm (M.map (·.1))}) (λq q_=>q_) (λq q_=>If bn r bm M q.1.2.1 q.1.2.2::I q.1.1::q_) (λq=>q.1.2.1.length) ⟨([],M,aO),ie _⟩ ?_
 rintro⟨⟨pre,S,lJ⟩,hq⟩ ih
 dsimp only at hq ih ⊢
 refine xS ?_
 refine yG U U U (λhS=>?_) (λi hi=>?_)
 ·exact U2
 ·exact mz1
theorem YZ:TR be G 304 #[.map (aN bm)] [] (dC λv B=>∃p,v=.func (.func 396) #[] #[bu p]/\B=[bx p 232 [.map (aN bm)]]):=YS
theorem Y0:
 Dq be G 396 [bu p] [bx p 232 [.map (aN bm)],mp bn bm M] (λk:(Y au)=>[bn k]) (λpre=>∃post,(pre++post).Perm (M.map (·.1))) (λys=>ys.Perm (M.map (·.1))):=by
 refine Dq.mk λl I J hY=>?_
 refine bZ U λb O hb hG=>xD ?_
 refine tj U U U λr=>xS ?_
 refine fR [0,5] [0,1] (ι:={q:Y (Y au)×Y ((Y au)×aR)×ah ((Y au)×aR) // (q.1++q.2.1.map (·.1)).Perm (M.map (·.1))}) (λq q_=>q_) (λq q_=>If bn r bm M q.1.2.1 q.1.2.2::I q.1.1::q_) (λq=>q.1.2.1.length) ⟨([],M,aO),ie _⟩ ?_
 rintro⟨⟨pre,S,lJ⟩,hq⟩ ih
 dsimp only at hq ih ⊢
 refine xS ?_
 refine yG U U U (λhS=>?_) (λi hi=>?_)
 ·exact U2
 ·exact mz1
theorem Y1:TR be G 419 #[.map (aN bm)] [] (dC λv B=>∃p,v=.func (.func 475) #[] #[bu p]/\B=[bx p 532 [.map (aN bm)]]):=YS
theorem Y2:
 Dq be G 475 [bu p] [bx p 532 [.map (aN bm)],mp bn bm M] (λk:(Y au)=>[bn k]) (λpre=>∃post,(pre++post).Perm (M.map (·.1))) (λys=>ys.Perm (M.map (·.1))):=by
 refine Dq.mk λl I J hY=>?_
 refine bZ U λb O hb hG=>xD ?_
 refine tj U U U λr=>xS ?_
 refine fR [0,5] [0,1] (ι:={q:Y (Y au)×Y ((Y au)×aR)×ah ((Y au)×aR) // (q.1++q.2.1.map (·.1)).Perm (M.map (·.1))}) (λq q_=>q_) (λq q_=>If bn r bm M q.1.2.1 q.1.2.2::I q.1.1::q_) (λq=>q.1.2.1.length) ⟨([],M,aO),ie _⟩ ?_
 rintro⟨⟨pre,S,lJ⟩,hq⟩ ih
 dsimp only at hq ih ⊢
 refine xS ?_
 refine yG U U U (λhS=>?_) (λi hi=>?_)
 ·exact U2
 ·exact mz1
theorem Y3:TR be G 380 #[.map (aN bm)] [] (dC λv B=>∃p,v=.func (.func 453) #[] #[bu p]/\B=[bx p 502 [.map (aN bm)]]):=YS
theorem Y4(M:Y (Place×aR)):
 Dq be G 453 [bu p] [bx p 502 [.map (aN bm)],mp Place.v bm M] (λk:Place=>[Place.v k]) (λpre=>∃post,(pre++post).Perm (M.map (·.1))) (λys=>ys.Perm (M.map (·.1))):=by
 refine Dq.mk λl I J hY=>?_
 refine bZ U λb O hb hG=>xD ?_
 refine tj U U U λr=>xS ?_
 refine fR [0,5] [0,1] (ι:={q:Y Place×Y (Place×aR)×ah (Place×aR) // (q.1++q.2.1.map (·.1)).Perm (M.map (·.1))}) (λq q_=>q_) (λq q_=>If Place.v r bm M q.1.2.1 q.1.2.2::I q.1.1::q_) (λq=>q.1.2.1.length) ⟨([],M,aO),ie _⟩ ?_
 rintro⟨⟨pre,S,lJ⟩,hq⟩ ih
 dsimp only at hq ih ⊢
 refine xS ?_
 refine yG U U U (λhS=>?_) (λi hi=>?_)
 ·exact U2
 ·have hp:(pre++[S[i].1]++(S.eraseIdx i).map (·.1)).Perm (M.map (·.1)):=by
   grind [p9]
  refine xS ?_;refine B0 U U U  ?_;refine xA ?_;intro z;refine tM hG (hY pre S[i].1 ⟨_,hp⟩) U U U U ?_ ?_
  ·exact bT4
  ·exact bT5
abbrev Bs:=Y au
structure Rec where
 fQ:az
 kind:ae
 key:Bs
 val:Bs
deriving DecidableEq
structure Ptr where
 fQ:az
 kind:ae
 at_:ae
 len:ae
 key:Bs
deriving DecidableEq
structure Prn where
 bytes:ae
 cG:ae
 sum:av
deriving DecidableEq
structure U3 where
 count:ae
 print:Prn
deriving DecidableEq
structure nN where
 kind:ae
 lW:Rec
 ptr:Ptr
 fin:U3
deriving DecidableEq
abbrev Rec.cs(r:Rec):Y aR:=[.int .u64 r.fQ.toNat,.int .i64 r.kind,bn r.key,bn r.val]
abbrev Ptr.cs(p:Ptr):Y aR:=[.int .u64 p.fQ.toNat,.int .i64 p.kind,.int .i64 p.at_,.int .i64 p.len,bn p.key]
abbrev Prn.cs(p:Prn):Y aR:=[.int .i64 p.bytes,.int .i64 p.cG,.int .u32 p.sum.toNat]
abbrev U3.cs(p:U3):Y aR:=[.int .i64 p.count,.int .i64 p.print.bytes,.int .i64 p.print.cG,.int .u32 p.print.sum.toNat]
abbrev nN.cs(f:nN):Y aR:=[.int .i64 f.kind,.int .u64 f.lW.fQ.toNat,.int .i64 f.lW.kind,bn f.lW.key,bn f.lW.val,
 .int .u64 f.ptr.fQ.toNat,.int .i64 f.ptr.kind,.int .i64 f.ptr.at_,.int .i64 f.ptr.len,bn f.ptr.key,
 .int .i64 f.fin.count,.int .i64 f.fin.print.bytes,.int .i64 f.fin.print.cG,.int .u32 f.fin.print.sum.toNat]
abbrev Rec.zero:Rec:=⟨0,0,[],[]⟩
abbrev Ptr.zero:Ptr:=⟨0,0,0,0,[]⟩
abbrev Prn.zero:Prn:=⟨0,0,0⟩
abbrev U3.zero:U3:=⟨0,.zero⟩
abbrev nN.zero:nN:=⟨0,.zero,.zero,.zero⟩
section
variable {w:aV}{d:ab}
theorem U4(k k':IntKind)(t:ab)(h:be.underlying t=aN (.int k'))(a b:ae):(gq (d+1) t (.int k a) (.int k b)).run be w=.ok (a==b) w:=by grind [run_equalIn_int]
theorem eqS(h:be.underlying t=aN .string)(a b:Bs):(gq (d+1) t (bn a) (bn b)).run be w=.ok (a==b) w:=by
 grind [run_equalIn_string,xp]
theorem kR(o:ab)[TA be t aQ](cs:ar aR)(h:o<cs.size):(part t cs o).run be w=.ok cs[o] w:=by
 simp[part,jZ (TA.out:(be.underlying t).map _=_),h]
end
section
variable {w:aV}
theorem MV(o n:ab)[TA be t aP][hz:jH be t n](cs:ar aR):(part t cs o).run be w=.ok (.agg (cs.extract o (o+n))) w:=by
 simp[part,jZ (TA.out:(be.underlying t).map _=_),jR hz.out]
end
theorem bT7{w:aV}{d:ab}(h:be.underlying t=aN .bool)(a b:ai):(gq (d+1) t (.bool a) (.bool b)).run be w=.ok (a==b) w:=run_equalIn_bool w d t a b h
theorem aV1(a0 b0:ae)(a1 b1:ae)(a2 b2:ae)(w:aV):
 (gq (d+2) 216 (.agg #[.int .i64 a0,.int .i64 a1,.int .u32 a2]) (.agg #[.int .i64 b0,.int .i64 b1,.int .u32 b2])).run be w=.ok ((a0==b0)&&((a1==b1)&&(a2==b2))) w:=by
 rw[run_equalIn_struct w _ _ _ _ (by rw[fj,Tryz.underlying216]) iB,fj,Tryz.underlying216]
 simp[Op.eqFields]
 simp only[kR 3 0,kR 3 1,kR 139 2,bJ,eW,bL,dU,List.getElem_toArray,List.getElem_cons_zero,fg,Nat.reduceLT,gB,List.extract_toArray,List.extract,List.drop_succ_cons,gx,gK,jr,gB,Nat.reduceSub,U4 .i64 .i64 3 gE,U4 .u32 .u32 139 Tryz.underlying139]
 grind
instance {a0 b0:ae}{a1 b1:ae}{a2 b2:ae}:EqA be 216 [.int .i64 a0,.int .i64 a1,.int .u32 a2] [.int .i64 b0,.int .i64 b1,.int .u32 b2] ((a0==b0)&&((a1==b1)&&(a2==b2))):=⟨by kernel_rfl,λw=>aV1 9998 _ _ _ _ _ _ w⟩
theorem bF5(a0 b0:ae)(a1 b1:ae)(a2 b2:ae)(a3 b3:ae)(w:aV):
 (gq (d+3) 218 (.agg #[.int .i64 a0,.int .i64 a1,.int .i64 a2,.int .u32 a3]) (.agg #[.int .i64 b0,.int .i64 b1,.int .i64 b2,.int .u32 b3])).run be w=.ok ((a0==b0)&&((a1==b1)&&((a2==b2)&&(a3==b3)))) w:=by
 rw[run_equalIn_struct w _ _ _ _ (by rw[fj,Tryz.underlying218]) iB,fj,Tryz.underlying218]
 simp[Op.eqFields]
 simp only[kR 3 0,MV 216 1,bJ,eW,bL,dU,List.getElem_toArray,List.getElem_cons_zero,fg,Nat.reduceLT,gB,List.extract_toArray,List.extract,List.drop_succ_cons,gx,gK,jr,gB,Nat.reduceSub,U4 .i64 .i64 3 gE,aV1]
 grind
theorem aV2(a0 b0:ae)(a1 b1:ae)(a2 b2:Bs)(a3 b3:Bs)(w:aV):
 (gq (d+2) 151 (.agg #[.int .u64 a0,.int .i64 a1,bn a2,bn a3]) (.agg #[.int .u64 b0,.int .i64 b1,bn b2,bn b3])).run be w=.ok ((a0==b0)&&((a1==b1)&&((a2==b2)&&(a3==b3)))) w:=by
 rw[run_equalIn_struct w _ _ _ _ (by rw[fj,Tryz.underlying151]) iB,fj,Tryz.underlying151]
 simp[Op.eqFields]
 simp only[kR 87 0,kR 149 1,kR 9 2,kR 9 3,bJ,eW,bL,dU,List.getElem_toArray,List.getElem_cons_zero,fg,Nat.reduceLT,gB,List.extract_toArray,List.extract,List.drop_succ_cons,gx,gK,jr,gB,Nat.reduceSub,U4 .u64 .u64 87 Tryz.underlying87,U4 .i64 .i64 149 Tryz.underlying149,eqS 9 gD]
 grind
theorem bF6(a0 b0:ae)(a1 b1:ae)(a2 b2:ae)(a3 b3:ae)(a4 b4:Bs)(w:aV):
 (gq (d+2) 214 (.agg #[.int .u64 a0,.int .i64 a1,.int .i64 a2,.int .i64 a3,bn a4]) (.agg #[.int .u64 b0,.int .i64 b1,.int .i64 b2,.int .i64 b3,bn b4])).run be w=.ok ((a0==b0)&&((a1==b1)&&((a2==b2)&&((a3==b3)&&(a4==b4))))) w:=by
 rw[run_equalIn_struct w _ _ _ _ (by rw[fj,Tryz.underlying214]) iB,fj,Tryz.underlying214]
 simp[Op.eqFields]
 simp only[kR 87 0,kR 149 1,kR 3 2,kR 3 3,kR 9 4,bJ,eW,bL,dU,List.getElem_toArray,List.getElem_cons_zero,fg,Nat.reduceLT,gB,List.extract_toArray,List.extract,List.drop_succ_cons,gx,gK,jr,gB,Nat.reduceSub,U4 .u64 .u64 87 Tryz.underlying87,U4 .i64 .i64 149 Tryz.underlying149,U4 .i64 .i64 3 gE,eqS 9 gD]
 grind
theorem bF7(a0 b0:ae)(a1 b1:ae)(a2 b2:ae)(a3 b3:Bs)(a4 b4:Bs)(a5 b5:ae)(a6 b6:ae)(a7 b7:ae)(a8 b8:ae)(a9 b9:Bs)(Y5 tu:ae)(Ig yP:ae)(a12 Dn:ae)(Qo Ic:ae)(w:aV):
 (gq (d+4) 220 (.agg #[.int .i64 a0,.int .u64 a1,.int .i64 a2,bn a3,bn a4,.int .u64 a5,.int .i64 a6,.int .i64 a7,.int .i64 a8,bn a9,.int .i64 Y5,.int .i64 Ig,.int .i64 a12,.int .u32 Qo]) (.agg #[.int .i64 b0,.int .u64 b1,.int .i64 b2,bn b3,bn b4,.int .u64 b5,.int .i64 b6,.int .i64 b7,.int .i64 b8,bn b9,.int .i64 tu,.int .i64 yP,.int .i64 Dn,.int .u32 Ic])).run be w=.ok ((a0==b0)&&(((a1==b1)&&((a2==b2)&&((a3==b3)&&(a4==b4))))&&(((a5==b5)&&((a6==b6)&&((a7==b7)&&((a8==b8)&&(a9==b9)))))&&((Y5==tu)&&((Ig==yP)&&((a12==Dn)&&(Qo==Ic))))))) w:=by
 rw[run_equalIn_struct w _ _ _ _ (by rw[fj,Tryz.underlying220]) iB,fj,Tryz.underlying220]
 simp[Op.eqFields]
 simp only[kR 149 0,MV 151 1,MV 214 5,MV 218 10,bJ,eW,bL,dU,List.getElem_toArray,List.getElem_cons_zero,fg,Nat.reduceLT,gB,List.extract_toArray,List.extract,List.drop_succ_cons,gx,gK,jr,gB,Nat.reduceSub,U4 .i64 .i64 149 Tryz.underlying149,aV2,bF6,bF5]
 grind
instance {a0 b0:ae}{a1 b1:ae}{a2 b2:ae}{a3 b3:Bs}{a4 b4:Bs}{a5 b5:ae}{a6 b6:ae}{a7 b7:ae}{a8 b8:ae}{a9 b9:Bs}{Y5 tu:ae}{Ig yP:ae}{a12 Dn:ae}{Qo Ic:ae}:EqA be 220 [.int .i64 a0,.int .u64 a1,.int .i64 a2,bn a3,bn a4,.int .u64 a5,.int .i64 a6,.int .i64 a7,.int .i64 a8,bn a9,.int .i64 Y5,.int .i64 Ig,.int .i64 a12,.int .u32 Qo] [.int .i64 b0,.int .u64 b1,.int .i64 b2,bn b3,bn b4,.int .u64 b5,.int .i64 b6,.int .i64 b7,.int .i64 b8,bn b9,.int .i64 tu,.int .i64 yP,.int .i64 Dn,.int .u32 Ic] ((a0==b0)&&(((a1==b1)&&((a2==b2)&&((a3==b3)&&(a4==b4))))&&(((a5==b5)&&((a6==b6)&&((a7==b7)&&((a8==b8)&&(a9==b9)))))&&((Y5==tu)&&((Ig==yP)&&((a12==Dn)&&(Qo==Ic))))))):=⟨by kernel_rfl,λw=>bF7 9996 _ _ _ _ _ _ _ _ _ _ _ _ _ _ _ _ _ _ _ _ _ _ _ _ _ _ _ _ w⟩
theorem Y6(a0 b0:ae)(a1 b1:ae)(a2 b2:ae)(w:aV):
 (gq (d+2) 153 (.agg #[.int .u32 a0,.int .i64 a1,.int .i64 a2]) (.agg #[.int .u32 b0,.int .i64 b1,.int .i64 b2])).run be w=.ok ((a0==b0)&&((a1==b1)&&(a2==b2))) w:=by
 rw[run_equalIn_struct w _ _ _ _ (by rw[fj,Tryz.underlying153]) iB,fj,Tryz.underlying153]
 simp[Op.eqFields]
 simp only[kR 139 0,kR 3 1,kR 3 2,bJ,eW,bL,dU,List.getElem_toArray,List.getElem_cons_zero,fg,Nat.reduceLT,gB,List.extract_toArray,List.extract,List.drop_succ_cons,gx,gK,jr,gB,Nat.reduceSub,U4 .u32 .u32 139 Tryz.underlying139,U4 .i64 .i64 3 gE]
 grind
instance {a0 b0:ae}{a1 b1:ae}{a2 b2:ae}:EqA be 153 [.int .u32 a0,.int .i64 a1,.int .i64 a2] [.int .u32 b0,.int .i64 b1,.int .i64 b2] ((a0==b0)&&((a1==b1)&&(a2==b2))):=⟨by kernel_rfl,λw=>Y6 9998 _ _ _ _ _ _ w⟩
theorem bF8(a0 b0:Bs)(a1 b1:ae)(a2 b2:ae)(a3 b3:ae)(a4 b4:ae)(a5 b5:ae)(a6 b6:ai)(a7 b7:Bs)(w:aV):
 (gq (d+3) 155 (.agg #[bn a0,.int .u64 a1,.int .i64 a2,.int .u32 a3,.int .i64 a4,.int .i64 a5,.bool a6,bn a7]) (.agg #[bn b0,.int .u64 b1,.int .i64 b2,.int .u32 b3,.int .i64 b4,.int .i64 b5,.bool b6,bn b7])).run be w=.ok ((a0==b0)&&((a1==b1)&&((a2==b2)&&(((a3==b3)&&((a4==b4)&&(a5==b5)))&&((a6==b6)&&(a7==b7)))))) w:=by
 rw[run_equalIn_struct w _ _ _ _ (by rw[fj,Tryz.underlying155]) iB,fj,Tryz.underlying155]
 simp[Op.eqFields]
 simp only[kR 9 0,kR 87 1,kR 149 2,MV 153 3,kR 4 6,kR 9 7,bJ,eW,bL,dU,List.getElem_toArray,List.getElem_cons_zero,fg,Nat.reduceLT,gB,List.extract_toArray,List.extract,List.drop_succ_cons,gx,gK,jr,gB,Nat.reduceSub,eqS 9 gD,U4 .u64 .u64 87 Tryz.underlying87,U4 .i64 .i64 149 Tryz.underlying149,Y6,bT7 4 Tryz.underlying4]
 grind
instance {a0 b0:Bs}{a1 b1:ae}{a2 b2:ae}{a3 b3:ae}{a4 b4:ae}{a5 b5:ae}{a6 b6:ai}{a7 b7:Bs}:EqA be 155 [bn a0,.int .u64 a1,.int .i64 a2,.int .u32 a3,.int .i64 a4,.int .i64 a5,.bool a6,bn a7] [bn b0,.int .u64 b1,.int .i64 b2,.int .u32 b3,.int .i64 b4,.int .i64 b5,.bool b6,bn b7] ((a0==b0)&&((a1==b1)&&((a2==b2)&&(((a3==b3)&&((a4==b4)&&(a5==b5)))&&((a6==b6)&&(a7==b7)))))):=⟨by kernel_rfl,λw=>bF8 9997 _ _ _ _ _ _ _ _ _ _ _ _ _ _ _ _ w⟩
theorem Ih[CF be f](pok fok:Y Bs->Prop)(hit:Dq be G f cap A (λk:Bs=>[bn k]) pok fok)(hl:∀p,pok p->p.length<=1000000000000):
 TR be G 361 #[.slice aO 0 0,.func (.func f) #[] cap.toArray] [dZ A] (dC λv B=>∃ys,fok ys/\∃a c,v=.slice a ys.length c/\B=[own 9 1 a ys.length c (ys.flatMap λk=>[bn k]),dZ A]):=by
 refine bZ U λb O hb hG=>xS ?_
 refine X.box U U U U λb2=>?_
 refine C7 (λk:Bs=>[bn k]) 9 1 b2 U (xS ?_)
 refine IK hG hb hit.dZ U (λpre=>[mS (λk:Bs=>[bn k]) 9 1 35 b2 pre]) [mS (λk:Bs=>[bn k]) 9 1 35 b2 []] U (λ_=>rfl) eK ?_ ?_
 ·intro b' β' l' r pre x hx mM BS hr;have tJ:=hl _ hx;rw[bK,List.length_singleton]at tJ;refine xS ?_;refine qO mM hr (xS ?_);refine nK (λk:Bs=>[bn k]) 9 1 35 b2 λa6 c6=>?_;refine xZ ?_;intro b7;refine fH (x) U U U U bw U cE cE cE cE cE bw λa8 c8=>xS ?_;refine vk (λk:Bs=>[bn k]) 9 1 35 b2 (pre++[x]) U ?_;exact lT mM
 ·intro D ys AD;dsimp only[bh,bk,bj];refine nK (λk:Bs=>[bn k]) 9 1 35 b2 λa6 c6=>xS ?_;exact aV3
theorem MW[CF be f](pok fok:Y Bs->Prop)(hit:Dq be G f cap A (λk:Bs=>[bn k]) pok fok)(hl:∀p,pok p->p.length<=1000000000000):
 TR be G 255 #[.func (.func f) #[] cap.toArray] [dZ A] (dC λv B=>∃ys,fok ys/\∃a c,v=.slice a ys.length c/\B=[own 9 1 a ys.length c (ys.flatMap λk=>[bn k]),dZ A]):=by
 refine dH U λb O hb hG=>xS ?_
 refine cP (Ih G f cap A pok fok hit hl) ?_
 rintro v B ⟨ys,AD,a,c,rfl,rfl⟩
 refine xD ?_
 exact cT hb (.tmps U) ⟨ys,AD,a,c,U,U⟩
instance bp7(x l m:ae):FJ be 313 [.int .i64 x,.int .i64 l,.int .i64 m] [] (.bool (decide (l<=x)&&decide (x<=m))):=⟨λG=>by
 refine jy U λb O hb hG=>?_;refine xT 10 ?_ ?_<;>intro h
 ·exact MX
 ·refine xS ?_;exact cT hb (.tmps U) ⟨by simp[mv,h],U⟩⟩
instance aV4(x:ae):FJ be 312 [.int .i64 x] [] (.bool (x==1||x==2)):=⟨λG=>by
 refine dH U λb O hb hG=>?_;refine xT 5 ?_ ?_<;>intro h
 ·exact MX
 ·refine xS ?_;exact cT hb (.tmps U) ⟨by simp[mv,h],U⟩⟩
def qo(fQ:ae)(key val:Bs)(kind:ae):ae:=
 if fQ=0 then 47 else if ¬(1<=key.length/\key.length<=64)then 48 else if 2048<val.length\/(kind=2/\val≠[])then 49 else 0
instance bF9(fQ:ae)(key val:Bs)(kind:ae):FJ be 311 [.int .u64 fQ,bn key,bn val,.int .i64 kind] [] (.int .i64 (qo fQ key val kind)):=⟨λG=>by
 refine TR.go (us:=[_,_,_,_]) (bH U) λb O hb hG=>?_;have out:∀{N vs k H} (x:ae),qo fQ key val kind=x->lk vs 8=aN (.int .i64 x)->X be b O aO (.it (.code .ret::k)) ⟨N,vs,[]⟩ H (dX (.int .i64 (qo fQ key val kind))):=by
  intro N vs k H x he h1;exact cT hb (.tmp h1 .nil) ⟨by rw[he];rfl,U⟩
 refine xB ?_ ?_<;>intro h1
 ·refine xS ?_;exact out 47 (by grind [qo]) U
 ·refine xB ?_ ?_<;>intro h2
  ·refine xS ?_;exact out 48 (by grind [qo]) U
  ·refine xS ?_;have e0:qo fQ key val kind=if 2048<val.length\/(kind=2/\val≠[])then 49 else 0:=by
    grind [qo]
   refine xT 21 ?_ ?_<;>intro h3
   ·refine xS ?_;exact out 49 bQ U
   ·refine xT 24 ?_ ?_<;>intro h4
    ·refine xB ?_ ?_<;>intro h5
     ·refine xS ?_;exact out 49 bQ U
     ·refine xS ?_;exact out 0 bQ U
    ·refine xS ?_;exact out 0 bQ U⟩
abbrev gv(r:Rec):nN:=⟨r.kind,r,.zero,.zero⟩
instance bY9(l k:ae)(x y:Bs):FJ be 137 [.agg #[.int .u64 l,.int .i64 k,bn x,bn y]] [] (.agg #[.int .i64 k,.int .u64 l,.int .i64 k,bn x,bn y,.int .u64 0,.int .i64 0,.int .i64 0,.int .i64 0,bn [],.int .i64 0,.int .i64 0,.int .i64 0,.int .u32 0]):=⟨λG=>by
 refine dH U λb O hb hG=>?_;refine xP ?_;intro b1;refine xA ?_;intro b2;exact cT hb (.jf U U .nil) ⟨U,U⟩⟩
end
section
variable(m:ab)(l:Y au)(i:ab)(f:nN)(G:dA)(a:ah aX)(n c:ab)(xs:Y au)
def wj(f:nN)(e:ae)(right:ai)(only:nN):ae:=if e=0/\(right=aQ\/only≠f)then 40 else e
def rT(f:nN):ai:=decide (0<=f.ptr.at_/\f.ptr.at_<=4194304/\1<=f.ptr.len/\f.ptr.len<=4194304)
def rU(f:nN):ai:=decide (0<=f.fin.count/\f.fin.count<=4194304/\0<=f.fin.print.bytes/\f.fin.print.bytes<=4194304/\0<=f.fin.print.cG/\f.fin.print.cG<=4194304)
def dD(f:nN):ae:=
 if f.kind=1\/f.kind=2 then
  if f.lW.kind≠f.kind then 46 else wj f (qo f.lW.fQ.toNat f.lW.key f.lW.val f.lW.kind) aP ⟨f.kind,f.lW,.zero,.zero⟩
 else if f.kind=3 then
  if ¬(f.ptr.kind=1\/f.ptr.kind=2)then 46
  else wj f (qo f.ptr.fQ.toNat f.ptr.key [] f.ptr.kind) (rT f) ⟨f.kind,.zero,f.ptr,.zero⟩
 else if f.kind=4 then
  wj f 0 (rU f) ⟨f.kind,.zero,.zero,f.fin⟩
 else 46
theorem Y7(a b:az):((a.toNat:ae)==(b.toNat:ae))=(a==b):=by
 grind [iX]
theorem Y8(a b:av):((a.toNat:ae)==(b.toNat:ae))=(a==b):=by
 grind [fk]
theorem bp8(g:nN):((f.kind==g.kind)&&((((f.lW.fQ.toNat:ae)==(g.lW.fQ.toNat:ae))&&((f.lW.kind==g.lW.kind)&&((f.lW.key==g.lW.key)&&(f.lW.val==g.lW.val))))&&((((f.ptr.fQ.toNat:ae)==(g.ptr.fQ.toNat:ae))&&((f.ptr.kind==g.ptr.kind)&&((f.ptr.at_==g.ptr.at_)&&((f.ptr.len==g.ptr.len)&&(f.ptr.key==g.ptr.key)))))&&((f.fin.count==g.fin.count)&&((f.fin.print.bytes==g.fin.print.bytes)&&((f.fin.print.cG==g.fin.print.cG)&&((f.fin.print.sum.toNat:ae)==(g.fin.print.sum.toNat:ae))))))))=decide (f=g):=by
 obtain⟨k,⟨a1,a2,a3,a4⟩,⟨b1,b2,b3,b4,b5⟩,⟨c1,c2,c3,c4⟩⟩:=f
 obtain⟨k',⟨a1',a2',a3',a4'⟩,⟨b1',b2',b3',b4',b5'⟩,⟨c1',c2',c3',c4'⟩⟩:=g
 grind [Y7,Y8]
theorem MY(f:nN):TR be G 208 #[.agg f.cs.toArray] [] (dX (.int .i64 (dD f))):=by
 refine dH U λb O hb hG=>?_;have out:∀{N vs k H} (x:ae),dD f=x->lk vs 2=aN (.int .i64 x)->X be b O aO (.it (.code .ret::k)) ⟨N,vs,[]⟩ H (dX (.int .i64 (dD f))):=by
  intro N vs k H x he h1;exact cT hb (.tmp h1 .nil) ⟨by rw[he];rfl,U⟩
 refine xP ?_;intro b1;refine fU 6 [0] ?_;refine xL [0,1,2,3,4,5] ?_;refine X7 U U U U U U U U U U U U U U U U U U U U U U U U U U U U λb3 b4 b5=>?_;refine xA ?_;intro b7;refine tq [1,2,3,4,5,6,7,8,19] [0] (ι:={u:ai // u=(f.kind==1||f.kind==2)}) (λu q_=>(20,.bool u.1)::q_) (λu q_=>bx b7 220 (nN.cs ⟨f.kind,.zero,.zero,.zero⟩)::q_) (λu=>?_) (λK fin=>?_)
 ·obtain⟨u,hu⟩:=u;dsimp only;refine nk (ι:={p:ae×ai×nN // dD f=wj f p.1 p.2.1 p.2.2}) (λp=>([(1,bu b1),(2,.int .i64 0),(6,.int .i64 p.1.1),(7,bu b7),(8,.bool p.1.2.1)],[bx b7 220 p.1.2.2.cs,bx b1 220 f.cs])) (λp=>?_) (λK fin=>?_)
  ·obtain⟨⟨e,right,only⟩,hp⟩:=p;dsimp only at hp ⊢;refine xT 83 ?_ ?_<;>intro h1
   ·refine xT 86 ?_ ?_<;>intro h2
    ·refine xS ?_;exact out 40 az4 U
    ·refine xS ?_;rw[bp8];refine xB ?_ ?_<;>intro h3
     ·refine xS ?_;exact out 40 az4 U
     ·refine xS ?_;exact out e az4 U
   ·refine xS ?_;exact out e az4 U
  ·refine yT 20 (f.kind=1\/f.kind=2) (¬(f.kind=1\/f.kind=2)) ?_ ?_<;>intro hk
   ·refine xB ?_ ?_<;>intro h2
    ·exact Y9
    ·refine xS ?_
     refine X.W (fin ⟨(qo f.lW.fQ.toNat f.lW.key f.lW.val f.lW.kind,aP,⟨f.kind,f.lW,.zero,.zero⟩),?_⟩)
     grind [dD]
   ·refine yT 39 (f.kind=3) (¬f.kind=3) ?_ ?_<;>intro hk3
    ·refine xB ?_ ?_<;>intro h3
     ·exact Y9
     ·refine xS ?_;have e3:dD f=wj f (qo f.ptr.fQ.toNat f.ptr.key [] f.ptr.kind) (rT f) ⟨f.kind,.zero,f.ptr,.zero⟩:=by
       grind [dD]
      refine xT 55 ?_ ?_<;>intro h4
      ·refine xS ?_
       refine X.less (fin ⟨(qo f.ptr.fQ.toNat f.ptr.key [] f.ptr.kind,rT f,⟨f.kind,.zero,f.ptr,.zero⟩),e3⟩) (MN U U U U (dI U ?_)) bA
       grind [rT]
      ·refine xS ?_
       refine X.less (fin ⟨(qo f.ptr.fQ.toNat f.ptr.key [] f.ptr.kind,rT f,⟨f.kind,.zero,f.ptr,.zero⟩),e3⟩) (MN U U U U (dI U ?_)) bA
       grind [rT]
    ·refine yT 62 (f.kind=4) (¬f.kind=4) ?_ ?_<;>intro hk4
     ·refine xS ?_;have e4:dD f=wj f 0 (rU f) ⟨f.kind,.zero,.zero,f.fin⟩:=by
       grind [dD]
      refine xT 67 ?_ ?_<;>intro h4
      ·refine xT 73 ?_ ?_<;>intro h5
       ·refine xS ?_
        refine X.less (fin ⟨(0,rU f,⟨f.kind,.zero,.zero,f.fin⟩),e4⟩) (MN U U U U (dI U ?_)) bA
        grind [rU]
       exact aV5
      exact aV5
     ·exact Y9
 ·refine X.dE (Hs':=[bx b7 220 (nN.cs ⟨f.kind,.zero,.zero,.zero⟩),bx b5 218 f.fin.cs,bx b4 214 f.ptr.cs,bx b3 151 f.lW.cs,bx b1 220 f.cs]) (kg U) ?_;refine xT 20 ?_ ?_<;>intro h1
  ·refine xS ?_;exact X.W (fin ⟨aP,by grind⟩)
  ·refine xS ?_;exact X.W (fin ⟨f.kind==2,by grind⟩)
def wm:ab->ab->Y au
 |0,n=>[cV n]
 |f+1,n=>if 127<n then(cV n|||128)::wm f (n / 128)else[cV n]
def gn(l:Y az):Y au:=l.flatMap λx=>wm 9 x.toNat
theorem IZ:∀f n,(wm f n).length<=f+1
 |0,_=>by simp[wm]
 |f+1,n=>by
  unfold wm;split
  ·have:=IZ f (n / 128);simp;omega
  ·simp
theorem kS(l:Y az):(gn l).length<=10*l.length:=by
 unfold gn;induction l with
 |nil=>simp
 |cons x r ih=>grind [IZ]
theorem KI(xs:Y az)(i:ab)(h:i<xs.length):gn (xs.take (i+1))=gn (xs.take i)++wm 9 xs[i].toNat:=by
 grind [gn,dO]
theorem ow(xs:Y az)(hn:xs.length=n)(hs:n<=1099511627776):
 TR be G 209 #[.slice a n c] [dp bT3 1 a xs] (dC (ay7 (gn xs))):=by
 refine TR.go (us:=[.slice a n c]) (bH U) λb O hb hG=>?_
 refine yK (λ_ _ hs=>j6 5 1 hs) (xS ?_)
 refine fR [6,7] [0] (ι:={p:ab×ah aX×ab // p.1<=n}) (λi q_=>(3,.slice i.1.2.1 (gn (xs.take i.1.1)).length i.1.2.2)::(8,.int .i64 i.1.1)::q_) (λi q_=>own 5 1 i.1.2.1 (gn (xs.take i.1.1)).length i.1.2.2 ((gn (xs.take i.1.1)).map gT)::q_) (λi=>n - i.1.1) ⟨(0,aO,0),bp _⟩ ?_
 rintro⟨⟨i,a1,c1⟩,hi⟩ ih
 dsimp only
 refine xB ?_ ?_<;>intro h
 ·have hi:i<xs.length:=bQ;have hlen0:=kS (xs.take i);rw[dG]at hlen0;have hsnoc:=KI xs i hi;generalize hO:gn (xs.take i)=b52 at*;refine xS ?_;refine dJ U U U U U hi hn λbl o=>xS ?_;rw[show tT xs[i]=.int .u64 xs[i].toNat from rfl];have hx64:=xs[i].toNat_lt;generalize hx:xs[i].toNat=x at*;refine fR [6,7,8] [0,0] (ι:={p:ab×ab×Y au×ah aX×ab // p.2.1<128^(p.1+1)/\p.2.2.1.length+p.1<=b52.length+9/\p.2.2.1++wm p.1 p.2.1=b52++wm 9 x}) (λp q_=>(3,.slice p.1.2.2.2.1 p.1.2.2.1.length p.1.2.2.2.2)::(5,.int .u64 p.1.2.1)::q_) (λp q_=>own 5 1 p.1.2.2.2.1 p.1.2.2.1.length p.1.2.2.2.2 (p.1.2.2.1.map gT)::q_) (λp=>p.1.1) ⟨(9,x,b52,a1,c1),by dsimp only;omega,by dsimp only;omega,U⟩ ?_;rintro⟨⟨f,y,Z,a2,c2⟩,hy,hZ,hE⟩ rb;dsimp only at hy hZ hE rb ⊢;refine yB (127<y) (y<=127) ?_ ?_<;>intro hy127
  ·obtain⟨f,rfl⟩:∃q,f=q+1:=by
    cases f with
    |zero=>omega
    |succ q=>grind
   refine xS ?_
   refine me U U cE cE cE cE cE cE λY'=>?_
   refine uy U U U U cE cE cE cE bw λa3 c3=>xS ?_
   refine X.less (rb ⟨(f,y / 128,Z++[cV y|||128],a3,c3),?_,?_,?_⟩ oQ) ?_ ?_
   ·grind
   ·simp;omega
   ·grind [wm]
   ·refine Sub.cons (dI U dW) (Sub.cons (dI U (by rw[bE8])) (Sub.of U))
   ·dsimp only;refine kg ?_;rw[rS y,UX];simp[gT]
  ·refine xS ?_;refine me U U cE cE cE cE cE cE λY'=>?_;refine uy U U U U cE cE cE cE bw λa3 c3=>xS ?_;have Za:Z++[cV y]=b52++wm 9 x:=by
    rw[<-hE];cases f with
    |zero=>rfl
    |succ f=>grind [wm]
   have hT:gn (xs.take (i+1))=Z++[cV y]:=by rw[Za,hsnoc]
   refine X.less (ih ⟨(i+1,a3,c3),by omega⟩ bQ) ?_ ?_
   ·dsimp only;rw[hT];exact Sub.cons (dI U dW) (Sub.of U)
   ·dsimp only
    rw[hT]
    refine kg ?_
    grind [rS,gT]
 ·have gj:i=n:=bQ;subst gj;refine xS ?_;refine X.ret hb (.tmps U) ⟨_,⟨a1,c1,?_,U⟩,?_⟩
  ·show Value.slice _ _ _=_
   grind
  ·rw[bI bw];exact bS.trans (eo _ _ _) (bS.drop _ _)
theorem bG0:ee.wrap ((m:ae)*2^(min (Int.toNat 7) ee.bits))=((gQ (m*128)).toNat:ae):=by
 rw[show(min (Int.toNat 7) ee.bits)=7 from by decide,show(2:ae)^7=((128:ab):ae)from by decide,<-Int.natCast_mul,re];rfl
theorem Dr(x:au):ee.wrap (x.toNat:ae)=(x.toUInt64.toNat:ae):=by
 rw[re];simp_all
def rV:Y au->az->az×ae
 |[],n=>(n,0)
 |c::r,n=>if 127<c.toNat then(0,24)else rV r (gQ (n.toNat*128)|||c.toUInt64)
def rh(l:Y au)(count:ae):az×ae:=
 if count<1\/count>9 then(0,20)else if(l.length:ae)<count then(0,21)else rV (l.take count.toNat) 0
theorem Qp(h:i<l.length)(n:az):rV (l.drop i) n=if 127<l[i].toNat then(0,24)else rV (l.drop (i+1)) (gQ (n.toNat*128)|||l[i].toUInt64):=by
 rw[bP h,rV]
theorem I3(count:ae)(hn:xs.length=n)(qn:n<=c)(hs:n<=1099511627776):
 TR be G 326 #[.slice a n c,.int .i64 count] [dp RB 1 a xs] (dX (.tuple #[tT (rh xs count).1,bR (rh xs count).2])):=by
 refine bZ U λb O hb hG=>xS ?_
 have early:∀{N vs k H} (x:az) (e:ae),rh xs count=(x,e)->lk vs 4=aN (tT x)->lk vs 5=aN (bR e)->X be b O aO (.it (.code .ret::k)) ⟨N,vs,[]⟩ H (dX (.tuple #[tT (rh xs count).1,bR (rh xs count).2])):=by
  intro N vs k H x e he h1 h2;refine cT hb (.tmp h1 (.tmp h2 .nil)) ⟨by rw[he];rfl,U⟩
 refine xT 12 ?_ ?_<;>intro h1
 ·exact aV6
 ·refine xB ?_ ?_<;>intro h2
  ·exact aV6
  ·refine xB ?_ ?_<;>intro h3
   ·have hE:rh xs count=(0,21):=by grind [rh]
    refine xS ?_;refine early 0 21 hE ?_ ?_<;>rfl
   ·have hc0:1<=count/\count<=9/\count<=n:=bQ;obtain⟨m,rfl⟩:∃m:ab,count=m:=⟨count.toNat,by omega⟩;refine xS ?_;refine pj (l:=0) (h:=m) U U U hn Bd.no (Bd.at U U) bw bw qn λa2 c2 Qq=>?_;have hE:rh xs m=rV (xs.take m) 0:=by grind [rh]
    generalize hL:(xs.drop 0).take (m - 0)=L;have hL2:L=xs.take m:=bQ;have hLl:L.length=m:=bQ;rw[<-hL2]at hE;clear hL hL2;simp only[Nat.sub_zero];refine xS ?_;refine fR [23,24] [] (ι:={p:ab×az // p.1<=m/\rh xs m=rV (L.drop p.1) p.2}) (λp q_=>(6,tT p.1.2)::(25,.int .i64 p.1.1)::q_) (λp q_=>q_) (λp=>m - p.1.1) ⟨(0,0),bp _,by simpa using hE⟩ ?_;rintro⟨⟨i,t⟩,hi,hI⟩ ih;dsimp only at hi hI ih ⊢;refine xB ?_ ?_<;>intro h4
    ·have Ds:i<L.length:=bQ;rw[Qp L i Ds]at hI;refine xS ?_;refine dJ U U U U U Ds hLl λbl o=>xS ?_;rw[show gT L[i]=.int .u8 L[i].toNat from rfl];refine xB ?_ ?_<;>intro h5
     ·have Za:rh xs m=(0,24):=bQ;refine xS ?_;refine early 0 24 Za ?_ ?_<;>rfl
     ·refine xS ?_
      refine X.less (ih ⟨(i+1,gQ (t.toNat*128)|||L[i].toUInt64),by omega,?_⟩ oQ) (Sub.cons (dI U ?_) (Sub.of U)) (bS.drop _ _)
      ·grind
      ·rw[bG0,Dr,YM];rfl
    ·have him:i=m:=bQ;subst him;have Za:rh xs i=(t,0):=by rw[hI,cx bw];rfl
     refine xS ?_;refine early t 0 Za ?_ ?_<;>rfl
def aV7(n:az)(j:ab):au:=cV (n.toNat / 2^(7*j))&&&127
def Cd(n:az):ab->Y au
 |0=>[]
 |k+1=>aV7 n k::Cd n k
theorem AE(n:az):∀k,(Cd n k).length=k
 |0=>rfl
 |k+1=>by simp[Cd,AE n k]
theorem I4(n:az)(m:ab)(hm:1<=m/\m<=9):
 TR be G 306 #[tT n,bR m] [] (dC λv B=>if n.toNat / 2^(7*m)=0 then ∃a,v=.tuple #[.slice a m m,bR 0]/\B=[own 5 1 a m m ((Cd n m).map gT)]else v=.tuple #[.slice aO 0 0,bR 24]/\B=[]):=by
 refine bZ U λb O hb hG=>?_
 refine xT 11 ?_ ?_<;>intro h1
 ·simp at h1;omega
 refine xB ?_ ?_<;>intro h2
 ·simp at h2;omega
 refine xS ?_
 rw[show(7:ae)*(m:ae)=((7*m:ab):ae)from by omega]
 refine SQ U U U U U bw ?_
 rw[xq .u64 n.toNat (7*m) (by show 7*m<=64;omega)]
 generalize hq:n.toNat / 2^(7*m)=q at*
 refine xB ?_ ?_<;>intro h3
 ·refine xS ?_;refine X.ret hb (.tmps U) ⟨[],?_,bS.refl _⟩;dsimp only[dC];have:¬q=0:=bQ;rw[aj this];exact⟨U,U⟩
 have h30:q=0:=bQ
 refine xS ?_
 refine aR5 (n:=m) (zs:=[gT 0]) U U U U U U U bw bw λa=>xS ?_
 refine gZ a bw ?_
 rintro bl rfl
 refine X.loop (ι:={i:ab // i<=m}) (λi=>([(0,tT n),(1,bR m),(6,.slice (aN ⟨bl,0,aO⟩) m m),(24,bR m),(25,bR i.1)],[own 5 1 (aN ⟨bl,0,aO⟩) m m (cQ (m - i.1) (gT 0)++(Cd n i.1).map gT)])) (λi=>m - i.1) ⟨0,bp _⟩ (Sub.of U) ?_ ?_
 ·dsimp only
  refine kg ?_
  grind [Cd,List.flatten_replicate_singleton]
 rintro⟨i,hi⟩ ih
 dsimp only
 refine xB ?_ ?_<;>intro h4
 ·have Ds:i<m:=bQ
  refine xS ?_
  rw[show(7:ae)*(i:ae)=((7*i:ab):ae)from by omega]
  refine SQ U U U U U bw ?_
  rw[xq .u64 n.toNat (7*i) (by show 7*i<=64;omega)]
  refine xS ?_
  refine eA (j:=m - 1 - i) U U U U bw bw ?_
  refine Mn U U U U U U ?_ ?_
  ·grind
  refine xS ?_
  refine X.less (ih ⟨i+1,by omega⟩ bQ) (Sub.of U) ?_
  refine kg ?_
  congr 2
  rw[rS (n.toNat / 2^(7*i)),Fs]
  show _=cQ (m - (i+1)) (gT 0)++List.map gT (Cd n (i+1))
  have e1:m - i=(m - 1 - i)+1:=bw
  have e2:m - (i+1)=m - 1 - i:=bw
  rw[e1,e2]
  generalize m - 1 - i=p
  simp only[bT,Nat.mul_one,bL,dU]
  grind [Cd,aV7,gT]
 ·have him:i=m:=bQ;subst him;refine xS ?_;refine X.ret hb (.tmps U) ⟨_,?_,bS.refl _⟩;dsimp only[dC];rw[ao h30];exact⟨_,U,by simp⟩
theorem Zb(c:au):TR be G 495 #[gT c] [] (dX (.bool (decide (c.toNat<128)))):=by
 refine dH U λb O hb hG=>xS ?_;refine cT hb (.tmps U) ⟨?_,U⟩;simp[mv];omega
def dM{α:Type}(p:α->ai):ab->Y α->ae
 |_,[]=> -1
 |i,x::r=>if p x then(i:ae)else dM p (i+1) r
theorem ky{α:Type}(p:α->ai)(l:Y α)(i:ab)(h:i<l.length):dM p i (l.drop i)=if p l[i]then(i:ae)else dM p (i+1) (l.drop (i+1)):=by
 rw[bP h,dM]
theorem KJ(f:ab)(xs:Y au)(p:au->ai)[CF be f](hf:∀x,TR be G f #[gT x] [] (dX (.bool (p x))))(hn:xs.length=n)(hs:n<=1099511627776):
 TR be G 494 #[.slice a n c,.func (.func f) #[] #[]] [dp RB 1 a xs] (dX (bR (dM p 0 xs))):=by
 refine bZ U λb O hb hG=>xS ?_
 refine fR [0,1] [] (ι:={i:ab // i<=n/\dM p 0 xs=dM p i (xs.drop i)}) (λi q_=>(7,bR n)::(8,bR i.1)::q_) (λi q_=>q_) (λi=>n - i.1) ⟨0,bp _,U⟩ ?_
 rintro⟨i,hi,hE⟩ ih
 dsimp only
 refine xB ?_ ?_<;>intro h
 ·have hi:i<xs.length:=bQ;refine xS ?_;refine dJ U U U U U hi hn λbl o=>xS ?_;refine oN (fst:=[]) (us:=[gT xs[i]]) (cap:=[]) hG (hf xs[i]) U U U U ?_;rw[ky p xs i hi]at hE;refine xB ?_ ?_<;>intro h2
  ·rw[ao h2]at hE;exact az5
  ·rw[aj MZ]at hE;exact bT8
 ·exact U5
theorem wo{α:Type}(p:α->ai):∀(l:Y α) (i:ab),dM p i l= -1\/((i:ae)<=dM p i l/\dM p i l<(i:ae)+l.length)
 |[],_=>.inl U
 |x::r,i=>by
  unfold dM;split
  ·right;simp;omega
  ·rcases wo p r (i+1)with h|h
   ·exact .inl h
   ·right;simp only[bL];omega
def Ii:ab->az->Y au->az
 |_,n,[]=>n
 |i,n,c::r=>Ii (i+1) (n|||gQ ((c&&&127).toNat*2^(7*i))) r
theorem U6(h:i<l.length)(n:az):Ii i n (l.drop i)=Ii (i+1) (n|||gQ ((l[i]&&&127).toNat*2^(7*i))) (l.drop (i+1)):=by
 rw[bP h,Ii]
def AF(b:Y au):ae:=dM (λc=>decide (c.toNat<128)) 0 (b.take 10)
def tw(b:Y au):az×ae×ae:=
 if AF b<0/\b.length<10 then(0,0,21)
 else if AF b<0\/(AF b=9/\1<(b.getD 9 0).toNat)then(0,0,22)
 else if 0<AF b/\(b.getD (AF b).toNat 0).toNat=0 then(0,0,23)
 else(Ii 0 0 (b.take ((AF b).toNat+1)),AF b+1,0)
def Zc(p:az×ae×ae):aR:=.tuple #[tT p.1,bR p.2.1,bR p.2.2]
theorem bG1(j:ab)(h:j<=64):ee.wrap ((m:ae)*2^(min (Int.toNat (j:ae)) ee.bits))=((gQ (m*2^j)).toNat:ae):=by
 rw[show(min (Int.toNat (j:ae)) ee.bits)=j from by show min j 64=j;omega,show(2:ae)^j=((2^j:ab):ae)from by simp,<-Int.natCast_mul,re];rfl
theorem U7(hn:xs.length=n)(qn:n<=c)(hs:n<=1099511627776):
 TR be G 470 #[.slice a n c] [dp RB 1 a xs] (dX (Zc (tw xs))):=by
 refine dH U λb O hb hG=>?_
 have out:∀{N vs k H} (p:az×ae×ae),tw xs=p->lk vs 2=aN (tT p.1)->lk vs 3=aN (bR p.2.1)->lk vs 4=aN (bR p.2.2)->X be b O aO (.it (.code .ret::k)) ⟨N,vs,[]⟩ H (dX (Zc (tw xs))):=by
  intro N vs k H p he h1 h2 h3;exact cT hb (.tmp h1 (.tmp h2 (.tmp h3 .nil))) ⟨by rw[he];rfl,U⟩
 refine xS ?_
 obtain⟨m,hm,hmn,hm10⟩:∃m:ab,(if(10:ae)<(n:ae)then(10:ae)else(n:ae))=m/\m<=n/\m=min n 10:=by
  grind
 refine pj (l:=0) (h:=m) U U U hn Bd.no (Bd.at U hm) bw bw qn λa2 c2 Qq=>?_
 have hL:(xs.drop 0).take (m - 0)=xs.take 10:=by
  grind
 rw[hL]
 simp only[Nat.sub_zero]
 have hlen:(xs.take 10).length=m:=fD
 refine xJ (KJ G a2 m c2 495 (xs.take 10) (λc=>decide (c.toNat<128)) (Zb G) hlen bw) ?_
 have hr:=wo (λc:au=>decide (c.toNat<128)) (xs.take 10) 0
 rw[hlen]at hr
 have az6:tw xs=tw xs:=U
 conv at az6=>rhs;unfold tw AF
 generalize dM (λc:au=>decide (c.toNat<128)) 0 (xs.take 10)=q at*
 refine yT 18 (q<0) (0<=q) ?_ ?_<;>intro hq
 ·refine xB ?_ ?_<;>intro h2
  ·refine xS ?_
   refine out (0,0,21) ?_ ?_ ?_ ?_
   ·grind
   all_goals rfl
  ·refine xS ?_;refine X.cond U (λh5=>?_) (λh5=>by simp at h5;omega);refine xB ?_ ?_<;>intro h6
   ·refine xS ?_
    refine out (0,0,22) ?_ ?_ ?_ ?_
    ·grind
    all_goals rfl
   ·simp at h6;omega
 ·obtain⟨k,rfl⟩:∃k:ab,q=k:=⟨q.toNat,by omega⟩;have hk:k<xs.length:=bw;refine xS ?_;have hg:∀j (h:j<xs.length),xs.getD j 0=xs[j]:=bQ;rw[aj bw]at az6;refine XQ [0,5] [0] (ι:={_u:aA // tw xs=(Ii 0 0 (xs.take (k+1)),(k:ae)+1,0)}) (λ_ q_=>q_) (λ_ q_=>q_) (λu=>?_) (λK fin=>?_)
  ·obtain⟨_,hd⟩:=u;have hk9:k<=9:=bw;refine xS ?_;refine pj (l:=0) (h:=k+1) U U U hn Bd.no (Bd.at U dW) bw bw qn λa3 c3 hc3=>?_;simp only[Nat.sub_zero,gx];have hLl:(xs.take (k+1)).length=k+1:=fD;generalize xs.take (k+1)=L at*;refine xS ?_;refine X.loop (ι:={p:ab×az // p.1<=k+1/\Ii 0 0 L=Ii p.1 p.2 (L.drop p.1)}) (λp=>([(5,bR k),(6,tT p.1.2),(48,.slice a3 (k+1) c3),(49,bR (k+1:ab)),(50,bR p.1.1)],[dp RB 1 a3 L])) (λp=>k+1 - p.1.1) ⟨(0,0),bp _,by simp⟩ (Sub.of U) bA ?_;rintro⟨⟨i,t⟩,hi,hI⟩ ih;dsimp only at hi hI ih ⊢;refine xB ?_ ?_<;>intro h9
   ·have Ds:i<L.length:=bQ;rw[U6 L i Ds]at hI;refine xS ?_;refine dJ U U U U U Ds hLl λb4 o4=>xS ?_;rw[show gT L[i]=.int .u8 L[i].toNat from rfl];refine xS ?_;rw[Fs,Dr,show(7:ae)*(i:ae)=((7*i:ab):ae)from by omega];refine SQ U U U U U bw ?_;rw[bG1 _ (7*i) bw];refine xS ?_;refine X.less (ih ⟨(i+1,t|||gQ ((L[i]&&&127).toNat*2^(7*i))),by omega,?_⟩ oQ) (MN U (dI U ?_) U U (dI U nM)) bA
    ·rw[hI]
    ·rw[YM,UInt8.toNat_toUInt64];rfl
   ·have hik:i=k+1:=bQ;subst hik;rw[cx bw]at hI;refine xS ?_;refine out (t,(k:ae)+1,0) ?_ ?_ ?_ ?_
    ·rw[hd,hI];rfl
    all_goals rfl
  have last:∀(hd:tw xs=if 0<(k:ae)/\(xs.getD ((k:ae)).toNat 0).toNat=0 then(0,0,23)else(Ii 0 0 (xs.take (((k:ae)).toNat+1)),(k:ae)+1,0)),(0<(k:ae)/\xs[k].toNat=0->tw xs=(0,0,23))/\(¬(0<(k:ae)/\xs[k].toNat=0)->tw xs=(Ii 0 0 (xs.take (k+1)),(k:ae)+1,0)):=by
   grind
  refine yT 28 (k=9) (¬k=9) ?_ ?_<;>intro hk9
  ·have h9:(xs.getD 9 0)=xs[k]:=bQ;refine xS ?_;refine dJ U U U U U hk hn λb1 o1=>xS ?_;rw[show gT xs[k]=.int .u8 xs[k].toNat from rfl];refine xB ?_ ?_<;>intro h4
   ·refine xS ?_
    refine out (0,0,22) ?_ ?_ ?_ ?_
    ·grind
    all_goals rfl
   ·have hl:=last (by rw[az6,aj (by rw[h9];simp at h4;omega)]);refine xT 38 ?_ ?_<;>intro h7
    ·have h70:0<(k:ae):=bw;exact bG2
    ·exact aV8
  ·have hl:=last (by rw[az6,aj bw]);refine xT 38 ?_ ?_<;>intro h7
   ·have h70:0<(k:ae):=bQ;exact bG2
   ·exact aV8
end
section
variable(l:Y au)(G:dA)(p:ab)(s:Bs×ai)(a:ah aX)(n c:ab)(xs:Y au)(i:ab)
def mT(p:ab)(x:Bs×ai):bG:=ex fun(i:{q:ah aX×ab // x.1.length<=q.2})=>[bx p 527 [.slice i.1.1 x.1.length i.1.2,.bool x.2],dp RB 1 i.1.1 x.1]
def jS(n:ae)(s:Bs×ai):Bs×(Bs×ai):=if(s.1.length:ae)<n then([],(s.1,aP))else(s.1.take n.toNat,(s.1.drop n.toNat,s.2))
def ox(s:Bs×ai):az×(Bs×ai):=if(tw s.1).2.2≠0 then(0,(s.1,aP))else((tw s.1).1,(s.1.drop (tw s.1).2.1.toNat,s.2))
def jL(s:Bs×ai):ae×(Bs×ai):=if 4294967295<(ox s).1.toNat then(0,((ox s).2.1,aP))else((ox s).1.toNat,(ox s).2)
theorem U8(l:Bs)(h:(tw l).2.2=0):0<(tw l).2.1/\(tw l).2.1<=l.length:=by
 grind [tw,wo,AF]
theorem Ex(n:ae)(s:Bs×ai)(hn:0<=n):
 TR be G 407 #[bu p,.int .i64 n] [mT p s] (dC λv B=>v=bn (jS n s).1/\B=[mT p (jS n s).2]):=by
 refine bZ U λb O hb hG=>?_
 obtain⟨l,w⟩:=s
 refine X.l8 mT p U fun⟨⟨a,c⟩,hc⟩=>?_
 dsimp only at hc
 refine xD ?_
 refine xB ?_ ?_<;>intro h
 ·have e:jS n (l,w)=([],(l,aP)):=by grind [jS]
  exact bG3
 ·obtain⟨m,rfl⟩:∃m:ab,n=m:=⟨n.toNat,by omega⟩;have hm:m<=l.length:=bQ;have e:jS m (l,w)=(l.take m,(l.drop m,w)):=by grind [jS]
  refine xS ?_;refine pj (l:=0) (h:=m) U U U U Bd.no (Bd.at U U) bw hm hc λa2 c2 Qq=>?_;simp only[Nat.sub_zero,gx];have vz:(l.take m).length=m:=fD;generalize hL:l.take m=L at*;exact bG4
theorem xr(hs:s.1.length<=1099511627776):
 TR be G 408 #[bu p] [mT p s] (dC λv B=>v=.int .u64 (ox s).1.toNat/\B=[mT p (ox s).2]):=by
 refine dH U λb O hb hG=>?_
 obtain⟨l,w⟩:=s
 refine X.l8 mT p U fun⟨⟨a,c⟩,hc⟩=>?_
 dsimp only at hc hs
 refine xD ?_
 refine xJ (U7 G a l.length c l U hc hs) ?_
 dsimp only[Zc,tT,bR]
 have hz:=U8 l
 have e:ox (l,w)=if(tw l).2.2≠0 then(0,(l,aP))else((tw l).1,(l.drop (tw l).2.1.toNat,w)):=U
 generalize tw l=q at*
 obtain⟨x,sz,er⟩:=q
 dsimp only at hz e ⊢
 refine xB ?_ ?_<;>intro h
 ·exact aV9
 ·have h0:er=0:=bQ;rw[aj bw]at e;have hz:=hz h0;obtain⟨m,rfl⟩:∃m:ab,sz=m:=⟨sz.toNat,by omega⟩;have hm:m<=l.length:=bw;exact bG4
theorem rW(hs:s.1.length<=1099511627776):
 TR be G 409 #[bu p] [mT p s] (dC λv B=>v=.int .i64 (jL s).1/\B=[mT p (jL s).2]):=by
 refine dH U λb O hb hG=>?_
 refine xH (xr G p s hs) ?_
 have e:jL s=if 4294967295<(ox s).1.toNat then(0,((ox s).2.1,aP))else(((ox s).1.toNat:ae),(ox s).2):=U
 generalize ox s=q at*
 obtain⟨x,l,w⟩:=q
 dsimp only at e ⊢
 refine X.l8 mT p U fun⟨⟨a,c⟩,hc⟩=>?_
 dsimp only at hc
 refine xD ?_
 refine xB ?_ ?_<;>intro h
 ·exact aV9
 ·have hx:¬4294967295<x.toNat:=bQ;rw[aj hx]at e;refine xS ?_;rw[wrap_i64 _ bw bw];exact X.ret hb (.tmps U) ⟨_,⟨by rw[e];rfl,U⟩,by rw[e];exact pB mT p (l,w) U ⟨(a,c),hc⟩⟩
theorem Qr:
 TR be G 410 #[bu p] [mT p s] (dC λv B=>v=bn (jS s.1.length s).1/\B=[mT p (jS s.1.length s).2]):=by
 refine dH U λb O hb hG=>?_
 obtain⟨l,w⟩:=s
 refine X.l8 mT p U fun⟨⟨a,c⟩,hc⟩=>?_
 dsimp only at hc
 refine xD ?_
 refine gr mT p (l,w) U ⟨(a,c),hc⟩ ?_
 refine cP (Ex G p l.length (l,w) bw) ?_
 rintro _ _ ⟨rfl,rfl⟩
 refine xD ?_
 exact X.ret hb (.tmps U) ⟨_,⟨U,U⟩,ia [_] _⟩
theorem pE(n:ae)(s:Bs×ai):(jS n s).2.1.length<=s.1.length:=by
 grind [jS]
theorem xt:(ox s).2.1.length<=s.1.length:=by
 grind [ox]
theorem mV:(jL s).2.1.length<=s.1.length:=by
 grind [xt,jL]
theorem kz:0<=(jL s).1:=by
 grind [jL]
theorem Dt(x:au):eu.wrap (x.toNat:ae)=(x.toNat:ae):=by
 have:=x.toNat_lt;grind [wrap_i64]
theorem KO(m:ae)(h:0<=m):fi.wrap m=((iN m.toNat).toNat:ae):=by
 obtain⟨k,rfl⟩:∃k:ab,m=k:=⟨m.toNat,by omega⟩;rw[Az];simp
def tA(f:nN)(s:Bs×ai):nN×ai:=if s.2=aP\/s.1≠[]\/dD f≠0 then(.zero,aQ)else(f,aP)
def I5(s:Bs×ai):Bs×(Bs×ai):=jS s.1.length s
def oR(body:Bs):nN×ai:=
 match jS 1 (body,aQ)with
 |(kind,s)=>
  if s.2=aP then(.zero,aQ)
  else
   if(kind.getD 0 0).toNat=1 then
    match ox s with
    |(n,s)=>match jL s with
     |(m,s)=>match jS m s with
      |(key,s)=>match I5 s with
       |(val,s)=>tA ⟨1,⟨n,1,key,val⟩,.zero,.zero⟩ s
   else if(kind.getD 0 0).toNat=2 then
    match ox s with
    |(n,s)=>match I5 s with
     |(key,s)=>tA ⟨2,⟨n,2,key,[]⟩,.zero,.zero⟩ s
   else if(kind.getD 0 0).toNat=3 then
    match ox s with
    |(n,s)=>match jS 1 s with
     |(of,s)=>match jL s with
      |(at_,s)=>match jL s with
       |(len,s)=>match I5 s with
        |(key,s)=>tA ⟨3,.zero,⟨n,if of=[]then 0 else(of.getD 0 0).toNat,at_,len,key⟩,.zero⟩ s
   else if(kind.getD 0 0).toNat=4 then
    match jL s with
    |(x,s)=>match jL s with
     |(y,s)=>match jL s with
      |(z,s)=>match jL s with
       |(u,s)=>tA ⟨4,.zero,.zero,⟨x,⟨y,z,iN u.toNat⟩⟩⟩ s
   else tA ⟨(kind.getD 0 0).toNat,.zero,.zero,.zero⟩ s
abbrev bG5(p:nN×ai):aR:=.tuple #[.agg p.1.cs.toArray,.bool p.2]
theorem Zd(body:Bs)(hn:body.length=n)(qn:n<=c)(hs:n<=1099511627776):
 TR be G 328 #[.slice a n c] [dp RB 1 a body] (dX (bG5 (oR body))):=by
 subst hn
 refine dH U λb O hb hG=>?_
 refine xA ?_
 intro b2
 refine X.box U U U U λb4=>?_
 refine gr mT b4 (body,aQ) U ⟨(a,c),qn⟩  ?_
 refine xH (Ex G b4 1 (body,aQ) bw) ?_
 have l0:=pE 1 (body,aQ)
 have e0:oR body=oR body:=U
 conv at e0=>rhs;unfold oR
 have Ze:(jS 1 (body,aQ)).2.2=aQ->0<(jS 1 (body,aQ)).1.length:=by
  grind [jS]
 generalize jS 1 (body,aQ)=q at*
 obtain⟨kind,s,w⟩:=q
 dsimp only at Ze l0 e0 ⊢
 refine X.l8 mT b4 U fun⟨⟨a1,c1⟩,Fu⟩=>xD ?_
 refine xB ?_ ?_<;>intro h0
 ·rw[ao bw]at e0;refine xS ?_;exact cT hb (.jf U U (.tmp U .nil)) ⟨by rw[e0];rfl,U⟩
 ·have hw:w=aQ:=bw;subst hw;have hk:=Ze U;rw[aj dW]at e0;refine gr mT b4 (s,aQ) U ⟨(a1,c1),Fu⟩ (xS ?_);refine jG (j:=0) U U U U U hk ?_;have hkd:kind.getD 0 0=kind[0]:=by simp[hk]
  rw[hkd]at e0;generalize hx:kind[0]=x at*;refine xS ?_;rw[Dt];refine xA ?_;intro b6;refine nk (ι:={p:nN×(Bs×ai) // oR body=tA p.1 p.2}) (λp=>([(2,bu b2),(4,bu b4),(6,bu b6)],[bx b6 220 p.1.1.cs,mT b4 p.1.2,bx b2 220 nN.zero.cs])) (λp=>?_) (λK fin=>?_)
  ·obtain⟨⟨f,s,w⟩,hp⟩:=p;dsimp only at hp ⊢;refine X.l8 mT b4 U fun⟨⟨a1,c1⟩,Fu⟩=>xD ?_;unfold tA at hp;refine xT 107 ?_ ?_<;>intro h1
   ·rw[ao (.inl h1)]at hp;exact Tn
   ·refine xT 115 ?_ ?_<;>intro h2
    ·rw[ao (.inr (.inl bQ))]at hp;exact Tn
    ·have Qf:s=[]:=Ca;refine xJ (MY G f) ?_;refine xB ?_ ?_<;>intro h3
     ·rw[ao (.inr (.inr bQ))]at hp;exact Tn
     ·rw[aj bQ]at hp;exact Tn
  ·have hx256:=x.toNat_lt;refine X.dE (Hs':=[bx b6 220 (nN.cs ⟨x.toNat,.zero,.zero,.zero⟩),mT b4 (s,aQ),bx b2 220 nN.zero.cs]) (kg U) ?_;refine xT 26 ?_ ?_<;>intro h1
   ·have jT:x.toNat=1:=bQ;rw[ao jT]at e0;refine xH (xr G b4 (s,aQ) bQ) ?_;have l1:=xt (s,aQ);generalize ox (s,aQ)=q at*;obtain⟨n1,s1⟩:=q;dsimp only at l1 e0 ⊢;refine xS ?_;refine fU 5 [1] ?_;refine xL [0,1,2,3,4] ?_;refine xH (rW G b4 s1 bw) ?_;have l2:=mV s1;have p2:=kz s1;generalize jL s1=q at*;obtain⟨m2,s2⟩:=q;dsimp only at l2 p2 e0 ⊢;refine xH (Ex G b4 m2 s2 bw) ?_;have l3:=pE m2 s2;generalize jS m2 s2=q at*;obtain⟨t3,s3⟩:=q;dsimp only at l3 e0 ⊢;refine xH (Qr G b4 s3) ?_;rw[show I5 s3=jS (s3).1.length s3 from rfl]at e0;have l4:=pE (s3).1.length s3;generalize jS (s3).1.length s3=q at*;obtain⟨t4,s4⟩:=q;dsimp only at l4 e0 ⊢;refine xS ?_;exact X.W (fin ⟨(⟨x.toNat,⟨n1,x.toNat,t3,t4⟩,.zero,.zero⟩,s4),by grind⟩)
   ·have D7:¬x.toNat=1:=bQ;rw[aj D7]at e0;refine xT 43 ?_ ?_<;>intro h2
    ·have jT:x.toNat=2:=bQ;rw[ao jT]at e0;refine xH (xr G b4 (s,aQ) bQ) ?_;have l1:=xt (s,aQ);generalize ox (s,aQ)=q at*;obtain⟨n1,s1⟩:=q;dsimp only at l1 e0 ⊢;refine xS ?_;refine fU 4 [1] ?_;refine xL [0,1,2,3] ?_;refine xH (Qr G b4 s1) ?_;rw[show I5 s1=jS (s1).1.length s1 from rfl]at e0;have l2:=pE (s1).1.length s1;generalize jS (s1).1.length s1=q at*;obtain⟨t2,s2⟩:=q;dsimp only at l2 e0 ⊢;refine xS ?_;exact X.W (fin ⟨(⟨x.toNat,⟨n1,x.toNat,t2,[]⟩,.zero,.zero⟩,s2),by grind⟩)
    ·have vm:¬x.toNat=2:=bQ;rw[aj vm]at e0;refine xT 54 ?_ ?_<;>intro h3
     ·have jT:x.toNat=3:=bQ;rw[ao jT]at e0;refine xH (xr G b4 (s,aQ) bQ) ?_;have l1:=xt (s,aQ);generalize ox (s,aQ)=q at*;obtain⟨n1,s1⟩:=q;dsimp only at l1 e0 ⊢;refine xH (Ex G b4 1 s1 bw) ?_;have l2:=pE 1 s1;generalize jS 1 s1=q at*;obtain⟨t2,s2⟩:=q;dsimp only at l2 e0 ⊢;refine xS ?_;refine tq [2,4,6] [1] (ι:={o:ae // o=if t2=[]then 0 else((t2.getD 0 0).toNat:ae)}) (λo q_=>q_) (λo q_=>bx b6 220 (nN.cs ⟨x.toNat,.zero,⟨n1,o.1,0,0,[]⟩,.zero⟩)::q_) (λo=>?_) (λK2 y7=>?_)
      ·obtain⟨o,ho⟩:=o;rw[<-ho]at e0;dsimp only;refine xH (rW G b4 s2 bw) ?_;have l3:=mV s2;have p3:=kz s2;generalize jL s2=q at*;obtain⟨m3,s3⟩:=q;dsimp only at l3 p3 e0 ⊢;refine xH (rW G b4 s3 bw) ?_;have l4:=mV s3;have p4:=kz s3;generalize jL s3=q at*;obtain⟨m4,s4⟩:=q;dsimp only at l4 p4 e0 ⊢;refine xH (Qr G b4 s4) ?_;rw[show I5 s4=jS (s4).1.length s4 from rfl]at e0;have l5:=pE (s4).1.length s4;generalize jS (s4).1.length s4=q at*;obtain⟨t5,s5⟩:=q;dsimp only at l5 e0 ⊢;refine xS ?_;exact X.W (fin ⟨(⟨x.toNat,.zero,⟨n1,o,m3,m4,t5⟩,.zero⟩,s5),by grind⟩)
      ·refine yB (t2≠[]) (t2=[]) ?_ ?_<;>intro mf
       ·have B6:=gL.2 mf;refine xS ?_;refine jG (j:=0) U U U U U B6 (xS ?_);rw[Dt];refine xS ?_;exact X.W (y7 ⟨(t2[0].toNat:ae),by grind⟩)
       ·refine xS ?_;exact X.W (y7 ⟨0,by rw[ao mf]⟩)
     ·have hn3:¬x.toNat=3:=bQ;rw[aj hn3]at e0;refine xT 81 ?_ ?_<;>intro h4
      ·have jT:x.toNat=4:=bQ;rw[ao jT]at e0;refine xH (rW G b4 (s,aQ) bQ) ?_;have l1:=mV (s,aQ);have p1:=kz (s,aQ);generalize jL (s,aQ)=q at*;obtain⟨m1,s1⟩:=q;dsimp only at l1 p1 e0 ⊢;refine xH (rW G b4 s1 bw) ?_;have l2:=mV s1;have p2:=kz s1;generalize jL s1=q at*;obtain⟨m2,s2⟩:=q;dsimp only at l2 p2 e0 ⊢;refine xH (rW G b4 s2 bw) ?_;have l3:=mV s2;have p3:=kz s2;generalize jL s2=q at*;obtain⟨m3,s3⟩:=q;dsimp only at l3 p3 e0 ⊢;refine xH (rW G b4 s3 bw) ?_;have l4:=mV s3;have p4:=kz s3;generalize jL s3=q at*;obtain⟨m4,s4⟩:=q;dsimp only at l4 p4 e0 ⊢;refine xS ?_;rw[KO _ p4];refine xS ?_;exact X.W (fin ⟨(⟨x.toNat,.zero,.zero,⟨m1,⟨m2,m3,iN m4.toNat⟩⟩⟩,s4),by grind⟩)
      ·have hn4:¬x.toNat=4:=bQ;rw[aj hn4]at e0;refine xS ?_;exact X.W (fin ⟨(⟨x.toNat,.zero,.zero,.zero⟩,(s,aQ)),e0⟩)
def mW:Y au->au×ae×ae
 |[]=>(0,0,0)
 |c::r=>if c.toNat=167 then(0,0,31)else if c.toNat=166 then(match r with
  |[]=>(0,0,32)
  |d::_=>if 1<d.toNat then(0,0,32)else(166+d,2,0))else(c,1,0)
theorem oy(c:au)(r:Y au):mW (c::r)=(if c.toNat=167 then((0,0,31):au×ae×ae)else if c.toNat=166 then(match r with
 |[]=>((0,0,32):au×ae×ae)
 |d::_=>if 1<d.toNat then(0,0,32)else(166+d,2,0))else(c,1,0)):=by
 unfold mW
 rfl
def KP(p:au×ae×ae):aR:=.tuple #[gT p.1,bR p.2.1,bR p.2.2]
theorem bp9(hn:xs.length=n)(hs:n<=1099511627776)(hi:i<n):
 TR be G 406 #[.slice a n c,bR i] [dp RB 1 a xs] (dX (KP (mW (xs.drop i)))):=by
 refine bZ U λb O hb hG=>?_
 have hix:i<xs.length:=bw
 have hd:xs.drop i=xs[i]::xs.drop (i+1):=bP hix
 have out:∀{N vs k H} (p:au×ae×ae),mW (xs.drop i)=p->lk vs 4=aN (gT p.1)->lk vs 5=aN (bR p.2.1)->lk vs 6=aN (bR p.2.2)->X be b O aO (.it (.code .ret::k)) ⟨N,vs,[]⟩ H (dX (KP (mW (xs.drop i)))):=by
  intro N vs k H p he h1 h2 h3;exact cT hb (.tmp h1 (.tmp h2 (.tmp h3 .nil))) ⟨by rw[he];rfl,U⟩
 refine xS ?_
 refine dJ U U U U U hix hn λbl o=>xS ?_
 rw[show gT xs[i]=.int .u8 xs[i].toNat from rfl]
 refine xB ?_ ?_<;>intro h1
 ·refine xS ?_
  refine out (0,0,31) ?_ ?_ ?_ ?_
  ·grind [oy]
  all_goals rfl
 ·refine xB ?_ ?_<;>intro h2
  ·refine xT 23 ?_ ?_<;>intro h3
   ·have h4:xs.drop (i+1)=[]:=cx bQ
    refine xS ?_
    refine out (0,0,32) ?_ ?_ ?_ ?_
    ·grind [oy]
    all_goals rfl
   ·have h4:i+1<xs.length:=bQ;have h5:xs.drop (i+1)=xs[i+1]::xs.drop (i+2):=bP h4;refine xS ?_;refine dJ (j:=i+1) U U U U bw h4 hn λY' o2=>xS ?_;rw[show gT xs[i+1]=.int .u8 xs[i+1].toNat from rfl];refine xB ?_ ?_<;>intro h6
    ·refine xS ?_
     refine out (0,0,32) ?_ ?_ ?_ ?_
     ·grind [oy]
     all_goals rfl
    ·refine xS ?_
     refine dJ (j:=i+1) U U U U bw h4 hn λbl3 o3=>xS ?_
     refine out (166+xs[i+1],2,0) ?_ ?_ ?_ ?_
     ·grind [oy]
     ·refine dI U ?_
      show gf .u8 (dS.wrap (166+(xs[i+1].toNat:ae)))=gf .u8 ((166+xs[i+1]:au).toNat)
      grind [Dl,UInt8.toNat_add]
     all_goals rfl
  ·refine xS ?_
   refine out (xs[i],1,0) ?_ ?_ ?_ ?_
   ·grind [oy]
   all_goals rfl
def qp:ab->Y au->ae->Y au->Y au×ae×ae
 |0,_,_,acc=>(acc,0,0)
 |f+1,l,i,acc=>if l.isEmpty then(acc,0,0)else
  if(mW l).2.2=0 then qp f (l.drop (mW l).2.1.toNat) (i+(mW l).2.1) (acc++[(mW l).1])else([],(mW l).2.2,i)
def oS(l:Y au):Y au×ae×ae:=qp l.length l 0 []
theorem M0(h:l≠[])(h0:(mW l).2.2=0):1<=(mW l).2.1/\(mW l).2.1<=l.length:=by
 cases l<;>grind [oy]
def bG6(p:Y au×ae×ae)(v:aR)(B:Y bG):Prop:=
 (p.2.1=0/\∃a c,v=.tuple #[.slice a p.1.length c,bR 0,bR 0]/\B=[own 5 1 a p.1.length c (p.1.map gT)])\/
 (p.2.1≠0/\v=.tuple #[.slice aO 0 0,bR p.2.1,bR p.2.2]/\B=[])
theorem az8(hn:xs.length=n)(hs:n<=1099511627776):
 TR be G 327 #[.slice a n c] [dp RB 1 a xs] (dC (bG6 (oS xs))):=by
 refine dH U λb O hb hG=>xS ?_
 refine aS5 (cp:=n) U U U U U bw bw λa1=>xS ?_
 refine X.loop (ι:={p:ab×Y au×ah aX×ab // p.1<=n/\p.2.1.length<=p.1/\∃f,n - p.1<=f/\oS xs=qp f (xs.drop p.1) p.1 p.2.1}) (λp=>([(0,.slice a n c),(5,.slice p.1.2.2.1 p.1.2.1.length p.1.2.2.2),(6,bR p.1.1)],[own 5 1 p.1.2.2.1 p.1.2.1.length p.1.2.2.2 (p.1.2.1.map gT),dp RB 1 a xs])) (λp=>n - p.1.1) ⟨(0,[],a1,n),bp _,bz _,n,bz _,by rw[oS,hn];rfl⟩ (Sub.of U) (bS.refl _) ?_
 rintro⟨⟨i,Z,a2,c2⟩,hi,hZ,f,hf,hE⟩ ih
 dsimp only at hi hZ hf hE ih ⊢
 refine xB ?_ ?_<;>intro h1
 ·have Ds:i<n:=bQ;have mf:xs.drop i≠[]:=Ca;obtain⟨f,rfl⟩:∃q,f=q+1:=by
   cases f<;>grind
  refine xJ (bp9 G a n c xs i hn hs Ds) ?_;rw[qp]at hE;simp only[List.isEmpty_iff,mf,aI]at hE;have zW:=M0 (xs.drop i) mf;generalize mW (xs.drop i)=p at*;obtain⟨p1,p2,p3⟩:=p;dsimp only at hE zW;dsimp only[KP];refine yB (¬p3=0) (p3=0) ?_ ?_<;>intro h3
  ·rw[aj h3]at hE;refine xS ?_;refine X.ret hb (.tmps U) ⟨_,.inr ⟨by grind,by rw[hE];rfl,U⟩,bS.nil _⟩
  ·rw[ao h3]at hE;have zW:=zW h3;simp only[List.length_drop]at zW;obtain⟨m,rfl⟩:∃m:ab,p2=m:=⟨p2.toNat,by omega⟩;refine xS ?_;refine me U U cE cE cE cE cE cE λb2=>?_;refine uy U U U U cE cE cE cE bw λa3 c3=>xS ?_;refine X.less (ih ⟨(i+m,Z++[p1],a3,c3),by omega,by simp;omega,f,by omega,?_⟩ oQ) (s3_ U (dI U ?_) (dI U ?_)) ?_
   ·rw[hE];simp
   ·simp
   ·simp[bR]
   ·dsimp only;refine kg ?_;simp[gT]
 ·have gj:i=n:=bQ;subst gj;have Za:oS xs=(Z,0,0):=by
   rw[hE,cx bw];cases f<;>simp[qp]
  refine xS ?_;refine X.ret hb (.tmps U) ⟨_,.inl ⟨by rw[Za],a2,c2,by rw[Za];rfl,U⟩,?_⟩;rw[Za];exact(eo _ _ _).trans (bS.drop _ _)
instance:CX be 469 Extern.BytealgIndexByte.indexByte:=⟨λargs w=>run_callFunc_extern (fn:=Tryz.f469) U U U U U args w⟩
theorem uI(cv:au)(hn:xs.length=n):
 TR be G 405 #[.slice a n c,gT cv] [dp RB 1 a xs] (dX (bR (dT xs cv))):=by
 refine bZ U λb O hb hG=>xS ?_
 refine Fa U U U (λw hs=>ay6 cv hs hn)  ?_
 exact xR
theorem AG(c:au):dT l c<l.length\/dT l c= -1:=by
 induction l<;>grind [dT]
def KQ(xs:Y au):ae:=if 0<=dT xs 167 then dT xs 167 else xs.length
theorem az9(hn:xs.length=n)(qn:n<=c)(hs:n<=1099511627776):
 TR be G 325 #[.slice a n c,bR 0] [dp RB 1 a xs] (dX (bR (KQ xs))):=by
 refine bZ U λb O hb hG=>xS ?_
 have h0:(if(n:ae)<(if(0:ae)<0 then 0 else 0)then(n:ae)else(if(0:ae)<0 then 0 else 0))=0:=fD
 refine pj (l:=0) (h:=n) U U U hn (Bd.at U h0) Bd.no bw bw qn λa2 c2 Qq=>?_
 have hL:(xs.drop 0).take (n - 0)=xs:=by simp[<-hn]
 rw[hL]
 simp only[Nat.sub_zero]
 have hge:=Lib.indexByte_ge xs 167
 have hle:dT xs 167<=n:=by have:=AG xs 167;omega
 refine xJ (uI G a2 n c2 xs 167 hn) ?_
 unfold KQ
 generalize dT xs 167=q at*
 refine yB (0<=q) (¬0<=q) ?_ ?_<;>intro hq
 ·refine xS ?_
  refine cT hb (.tmps U) ⟨?_,U⟩
  grind [mv,bR]
 ·refine xS ?_;refine cT hb (.tmps U) ⟨by rw[aj hq,hn];rfl,U⟩
def KR(s:av):av:=(s>>>1)^^^(0x82f63b78&&&(0 - (s&&&1)))
def uJ(s:av)(x:au):av:=Nat.repeat KR 8 (s^^^x.toUInt32)
def rk(s:av)(l:Y au):av:= ~~~ (l.foldl uJ (~~~ s))
theorem Zf(t:av)(i:ab)(h:i<xs.length):(xs.take (i+1)).foldl uJ t=uJ ((xs.take i).foldl uJ t) xs[i]:=by
 grind [dO]
theorem Qs(s:av)(a:ah aX)(n c:ab)(xs:Y au)(hn:xs.length=n)(hs:n<=1099511627776):
 TR be G 398 #[.int .u32 s.toNat,.slice a n c] [dp RB 1 a xs] (dC λv B=>v=.int .u32 (rk s xs).toNat/\B=[]):=by
 refine TR.go (us:=[.int .u32 s.toNat,.slice a n c]) (bH U) λb O hb hG=>xS ?_
 rw[Tb]
 refine fR [10,11] [] (ι:={i:ab // i<=n}) (λi q_=>(5,.int .u32 ((xs.take i.1).foldl uJ (~~~ s)).toNat)::(12,.int .i64 i.1)::q_) (λi q_=>q_) (λi=>n - i.1) ⟨0,bp _⟩ ?_
 rintro⟨i,hi⟩ ih
 dsimp only
 refine xB ?_ ?_<;>intro h
 ·have hi:i<xs.length:=bQ;refine xS ?_;refine dJ U U U U U hi hn λbl o=>xS ?_;rw[show gT xs[i]=.int .u8 xs[i].toNat from rfl];rw[My,KA];refine fR [10,11,12] [0] (ι:={i:ab // i<=8}) (λj q_=>(5,.int .u32 (Nat.repeat KR j.1 ((xs.take i).foldl uJ (~~~ s)^^^xs[i].toUInt32)).toNat)::(20,.int .i64 j.1)::q_) (λj q_=>q_) (λj=>8 - j.1) ⟨0,bp _⟩ ?_;rintro⟨j,hj⟩ rb;dsimp only;generalize hT:Nat.repeat KR j ((xs.take i).foldl uJ (~~~ s)^^^xs[i].toUInt32)=T;refine xB ?_ ?_<;>intro h2
  ·have hj2:j<8:=bQ
   refine xS ?_
   refine X.less (rb ⟨j+1,hj2⟩ bQ) (Sub.cons ?_ (Sub.of U)) bA
   have e1:=Ta T 1
   have e2:=ax7 (T&&&1)
   have e3:=Ta 0x82f63b78 (0 - (T&&&1))
   have e4:=ax8 T 1 eK
   have e5:=KA (T>>>1) (0x82f63b78&&&(0 - (T&&&1)))
   show aN (gf .u32 _)=aN (gf .u32 _)
   congr 2
   refine Eq.trans ?_ (e5.trans ?_)
   ·grind
   ·rw[Nat.repeat,hT];rfl
  ·refine xS ?_;have hj8:j=8:=bQ;subst hj8;refine X.less (ih ⟨i+1,by omega⟩ bQ) (Sub.cons ?_ (Sub.of U)) bA;show aN (gf .u32 _)=aN (gf .u32 _);rw[Zf _ _ _ bw,<-hT];rfl
 ·have gj:i=n:=bQ;subst gj;refine xS ?_;rw[Tb];refine X.ret hb (.tmps U) ⟨[],⟨?_,U⟩,bS.drop _ _⟩;show gf .u32 _=_;rw[bI bw];rfl
end
section
variable{e:ae}(l b:Bs)(i k:ab)(G:dA)(f:nN)(a:ah aX)(n c:ab)(xs:Bs)
def nZ(l:Y (Y au)):av:=l.foldl rk 0
theorem M1(xs:Y (Y au))(i:ab)(h:i<xs.length):nZ (xs.take (i+1))=rk (nZ (xs.take i)) xs[i]:=by
 grind [nZ,dO]
theorem Fv(xs:Y (Y au))(hn:xs.length=n)(hs:n<=1099511627776)(hb:∀x∈xs,x.length<=1099511627776):
 TR be G 307 #[.slice a n c] [dp (RSl RB 1) 1 a xs] (dX (UY (nZ xs))):=by
 refine dH U λb O nA hG=>xS ?_
 refine fR [6,7] [] (ι:={i:ab // i<=n}) (λi q_=>(3,UY (nZ (xs.take i.1)))::(8,.int .i64 i.1)::q_) (λi q_=>q_) (λi=>n - i.1) ⟨0,bp _⟩ ?_
 rintro⟨i,hi⟩ ih
 dsimp only
 refine xB ?_ ?_<;>intro h
 ·have hi:i<xs.length:=bQ;refine xS ?_;refine dJ U U U U U hi hn λbl o=>?_;refine bD7 bl λa2 c2 Qq=>xS ?_;refine cM hG (Qs G _ a2 _ c2 xs[i] U (hb _ dW)) U U U (bS.es (A:=[dp RB 1 a2 xs[i]])) ?_;rintro _ _ ⟨rfl,rfl⟩;refine xS ?_;refine X.less (ih ⟨i+1,by omega⟩ bQ) (Sub.cons (dI U ?_) (Sub.of U)) ?_
  ·rw[M1 _ _ hi];rfl
  ·exact(bS.drop _ _).trans (bS.drop _ _)
 ·have gj:i=n:=bQ;subst gj;refine xS ?_;refine X.ret nA (.tmps U) ⟨_,⟨?_,U⟩,bS.nil _⟩;rw[bI bw];rfl
def kB:ab->Bs->ae
 |0,_=>0
 |_+1,[]=>43
 |k+1,c::r=>if 127<c.toNat then 42 else kB k r
def gN(b:Bs):ae×ae:=if kB 3 b≠0 then(0,kB 3 b)else((rh b 3).1.toNat,0)
theorem M3:∀(l:Bs) (n:az) (k:ab),n.toNat<2^(7*k)->k+l.length<=9->(rV l n).2=0->(rV l n).1.toNat<2^(7*(k+l.length))
 |[],n,k,h,_,_=>by grind [rV]
 |c::r,n,k,h,hk,h0=>by
  simp only[bL]at hk;unfold rV at h0 ⊢;split at h0
  ·simp at h0
  ·rename_i hc
   rw[aj hc]
   have h1:n.toNat*128<2^(7*(k+1)):=bQ
   have h64:2^(7*(k+1))<=2^63:=Nat.pow_le_pow_right eK bw
   have:=M3 r (gQ (n.toNat*128)|||c.toUInt64) (k+1) (by
    rw[UInt64.toNat_or]
    refine Nat.or_lt_two_pow ?_ ?_
    ·grind [UInt64.toNat_ofNat']
    ·have:c.toUInt64.toNat=c.toNat:=dW
     grind) bw h0
   grind
theorem To(hk:k<=9):(rh b k).1.toNat<2^(7*k):=by
 have hp:0<2^(7*k):=Nat.pow_pos eK
 unfold rh
 split
 ·grind
 ·split
  ·grind
  ·by_cases h:(rV (b.take (k:ae).toNat) 0).2=0
   ·have hl:(b.take (k:ae).toNat).length=k:=fD
    have:=M3 (b.take (k:ae).toNat) 0 0 dW bw h
    grind
   ·have key:∀(l:Bs) (n:az),(rV l n).2≠0->(rV l n).1=0:=by
     intro l;induction l<;>grind [rV]
    simp_all
theorem Du:0<=(gN b).1/\(gN b).1<2097152:=by
 unfold gN;split
 ·simp
 ·have:=To b 3 eK
  grind
theorem D8(h:i<b.length):kB (k+1) (b.drop i)=if 127<b[i].toNat then 42 else kB k (b.drop (i+1)):=by
 rw[bP h,kB]
theorem U9(hn:xs.length=n)(qn:n<=c)(hs:n<=1099511627776):
 TR be G 324 #[.slice a n c] [dp RB 1 a xs] (dX (.tuple #[.int .i64 (gN xs).1,.int .i64 (gN xs).2])):=by
 refine dH U λb O hb hG=>?_
 have out:∀{N vs k H} (x e:ae),gN xs=(x,e)->lk vs 2=aN (.int .i64 x)->lk vs 3=aN (.int .i64 e)->X be b O aO (.it (.code .ret::k)) ⟨N,vs,[]⟩ H (dX (.tuple #[.int .i64 (gN xs).1,.int .i64 (gN xs).2])):=by
  intro N vs k H x e he h1 h2;exact aW2
 refine xS ?_
 refine fR [0,2,3] [] (ι:={i:ab // i<=3/\kB 3 xs=kB (3 - i) (xs.drop i)}) (λi q_=>(7,.int .i64 i.1)::q_) (λi q_=>q_) (λi=>3 - i.1) ⟨0,by decide,U⟩ ?_
 rintro⟨i,hi,hI⟩ ih
 dsimp only at hi hI ih ⊢
 refine yB (i<3) (i=3) ?_ ?_<;>intro hi3
 ·obtain⟨k,hk⟩:∃k,3 - i=k+1:=⟨2 - i,by omega⟩;refine xB ?_ ?_<;>intro h2
  ·have h43:kB 3 xs=43:=by
    simp at h2;rw[hI,hk,cx bw];rfl
   refine xS ?_;exact out 0 43 (by grind [gN]) U U
  ·have Ds:i<xs.length:=bQ;rw[hk,D8 xs i k Ds]at hI;refine xS ?_;refine dJ U U U U U Ds hn λbl o=>xS ?_;rw[show gT xs[i]=.int .u8 xs[i].toNat from rfl];refine xB ?_ ?_<;>intro h3
   ·have h42:kB 3 xs=42:=bQ;refine xS ?_;exact out 0 42 (by grind [gN]) U U
   ·refine xS ?_;refine X.W (ih ⟨i+1,by omega,by grind⟩ bQ)
 ·subst hi3;have h0:kB 3 xs=0:=by rw[hI];rfl
  refine xJ (I3 G a n c xs 3 hn qn hs) ?_;have vz:=To xs 3 eK;rw[show((3:ab):ae)=3 from rfl]at vz;simp only[Nat.reduceMul,Nat.reducePow]at vz;refine xS ?_;rw[wrap_i64 _ bw bw];exact out _ 0 (by grind [gN]) U U
theorem AH:∀(f:ab) (l:Bs) (i:ae) (acc:Bs),(qp f l i acc).1.length<=acc.length+f
 |0,_,_,acc=>by simp[qp]
 |f+1,l,i,acc=>by
  unfold qp;split
  ·simp
  ·split
   ·have:=AH f (l.drop (mW l).2.1.toNat) (i+(mW l).2.1) (acc++[(mW l).1]);simp at this;omega
   ·simp
theorem M4:(oS l).1.length<=l.length:=by
 grind [AH,oS]
def tU(d:Bs):nN×ae×ae:=
 if(d.getD 0 0).toNat≠167 then(.zero,0,41)
 else if(gN (d.drop 1)).2≠0 then(.zero,0,(gN (d.drop 1)).2)
 else if d.length<(gN (d.drop 1)).1.toNat+9 then(.zero,0,43)
 else if KQ ((d.drop 4).take (gN (d.drop 1)).1.toNat)<(gN (d.drop 1)).1 then(.zero,0,45)
 else if(rh ((d.drop (4+(gN (d.drop 1)).1.toNat)).take 5) 5).2≠0\/(rh ((d.drop (4+(gN (d.drop 1)).1.toNat)).take 5) 5).1.toNat≠(rk 0 ((d.drop 1).take ((gN (d.drop 1)).1.toNat+3))).toNat then(.zero,0,44)
 else if(oS ((d.drop 4).take (gN (d.drop 1)).1.toNat)).2.1≠0 then(.zero,0,45)
 else if(oR (oS ((d.drop 4).take (gN (d.drop 1)).1.toNat)).1).2=aQ then(.zero,0,45)
 else((oR (oS ((d.drop 4).take (gN (d.drop 1)).1.toNat)).1).1,(gN (d.drop 1)).1+9,0)
def cX(b:Bs)(at_:ae):nN×ae×ae:=
 if at_<0\/b.length<=at_ then(.zero,0,40)else tU (b.drop at_.toNat)
abbrev U'(p:nN×ae×ae):aR:=.tuple #[.agg p.1.cs.toArray,.int .i64 p.2.1,.int .i64 p.2.2]
theorem Fy{α:Type}(xs:Y α)(l n:ab)(hn:xs.length=n):(xs.drop l).take (n - l)=xs.drop l:=by
 grind [bI]
theorem rE(at_:ae)(hn:xs.length=n)(qn:n<=c)(hs:n<=1099511627776):
 TR be G 219 #[.slice a n c,.int .i64 at_] [dp RB 1 a xs] (dX (U' (cX xs at_))):=by
 refine bZ U λb O hb hG=>?_
 have out:∀{N vs k H rs} (b4:ab) (f:nN) (x e:ae),cX xs at_=(f,x,e)->lk vs 4=aN (bu b4)->lk vs 5=aN (.int .i64 x)->lk vs 6=aN (.int .i64 e)->FB H b4 220 f.cs rs->X be b O aO (.it (.code .ret::k)) ⟨N,vs,[]⟩ H (dX (U' (cX xs at_))):=by
  intro N vs k H rs b4 f x e he h1 h2 h3 hf;exact cT hb (.jf h1 U (.tmp h2 (.tmp h3 .nil))) ⟨by rw[he];rfl,U⟩
 have M5:∀{N vs k H rs} (b4:ab) (e:ae),cX xs at_=(.zero,0,e)->lk vs 4=aN (bu b4)->lk vs 5=aN (.int .i64 0)->lk vs 6=aN (.int .i64 e)->FB H b4 220 [.int .i64 0,.int .u64 0,.int .i64 0,bn [],bn [],.int .u64 0,.int .i64 0,.int .i64 0,.int .i64 0,bn [],.int .i64 0,.int .i64 0,.int .i64 0,.int .u32 0] rs->X be b O aO (.it (.code .ret::k)) ⟨N,vs,[]⟩ H (dX (U' (cX xs at_))):=by
  intro N vs k H rs b4 e he h1 h2 h3 hf;exact out b4 .zero 0 e he h1 h2 h3 hf
 refine xA ?_
 intro b4
 refine xT 20 ?_ ?_<;>intro h1
 ·exact aW3
 ·refine xB ?_ ?_<;>intro h2
  ·exact aW3
  ·obtain⟨m,rfl⟩:∃m:ab,at_=m:=⟨at_.toNat,by grind⟩;have hm:m<xs.length:=bQ;have hE:cX xs m=tU (xs.drop m):=by grind [cX]
   unfold tU at hE;have hd0:((xs.drop m).getD 0 0)=xs[m]:=by simp[hm]
   have Qt:(xs.drop m).drop 1=xs.drop (m+1):=dW;rw[hd0,Qt]at hE;refine xS ?_;refine dJ U U U U U hm hn λbl o=>xS ?_;rw[show gT xs[m]=.int .u8 xs[m].toNat from rfl];refine xB ?_ ?_<;>intro h3
   ·rw[ao bQ]at hE;refine xS ?_;exact M5 b4 41 hE U U U ax
   ·rw[aj bQ]at hE;refine xS ?_;refine pj (l:=m+1) (h:=n) U U U hn (Bd.at U dW) Bd.no bw (bz _) qn λa1 c1 Fu=>?_;rw[Fy xs (m+1) n hn];refine xJ (U9 G a1 (n - (m+1)) c1 (xs.drop (m+1)) UU Fu bw) ?_;have hL:=Du (xs.drop (m+1));generalize hq:gN (xs.drop (m+1))=q at*;obtain⟨l,e⟩:=q;dsimp only at hL hE ⊢;refine xB ?_ ?_<;>intro h4
    ·rw[ao bQ]at hE;refine xS ?_;exact M5 b4 e hE U U U ax
    ·rw[aj bQ]at hE;obtain⟨k,rfl⟩:∃k:ab,l=k:=⟨l.toNat,by omega⟩;simp only[gS]at hE;refine xB ?_ ?_<;>intro h5
     ·rw[ao bQ]at hE;refine xS ?_;exact M5 b4 43 hE U U U ax
     ·have hlen:m+k+9<=n:=bQ;rw[aj fD]at hE;refine xS ?_;refine pj (l:=m+4) (h:=m+4+k) U U U hn (Bd.at U dW) (Bd.at U dW) bw bw qn λa2 c2 Qq=>?_;rw[show m+4+k - (m+4)=k from by omega]at Qq ⊢;rw[List.drop_drop]at hE;have hEl:((xs.drop (m+4)).take k).length=k:=fD;have hop:=M4 ((xs.drop (m+4)).take k);generalize(xs.drop (m+4)).take k=es at*;refine xJ (az9 G a2 k c2 es hEl Qq bw) ?_;refine xB ?_ ?_<;>intro h6
      ·exact aW4
      ·rw[aj bQ]at hE;refine xS ?_;refine pj (l:=m+4+k) (h:=m+4+k+5) U U U hn (Bd.at U dW) (Bd.at U dW) bw bw qn λa3 c3 hc3=>?_;rw[show m+4+k+5 - (m+4+k)=5 from by omega]at hc3 ⊢;rw[List.drop_drop,<-Nat.add_assoc]at hE;have h5l:((xs.drop (m+4+k)).take 5).length=5:=fD;generalize(xs.drop (m+4+k)).take 5=d5 at*;refine xJ (I3 G a3 5 c3 d5 5 h5l hc3 bw) ?_;have e44:(rh d5 5).2≠0\/(rh d5 5).1.toNat≠(rk 0 ((xs.drop (m+1)).take (k+3))).toNat->cX xs m=(.zero,0,44):=λh=>by rw[hE,ao h]
       have e45:¬((rh d5 5).2≠0\/(rh d5 5).1.toNat≠(rk 0 ((xs.drop (m+1)).take (k+3))).toNat)->_:=λh=>hE.trans (aj h);clear hE;generalize rh d5 5=q5 at*;obtain⟨sum,es5⟩:=q5;dsimp only at e44 e45 ⊢;refine xT 78 ?_ ?_<;>intro h7
       ·refine xS ?_;exact M5 b4 44 (e44 (.inl bQ)) U U U ax
       ·refine xS ?_;refine pj (l:=m+1) (h:=m+4+k) U U U hn (Bd.at U dW) (Bd.at U dW) bw bw qn λa6 c6 hc6=>?_;rw[show m+4+k - (m+1)=k+3 from by omega]at hc6 ⊢;have h6l:((xs.drop (m+1)).take (k+3)).length=k+3:=fD;generalize(xs.drop (m+1)).take (k+3)=d6 at*;refine xZ ?_;intro b7;refine Ki b7 (x:=d6) h6l hc6 ?_;refine xJ (Fv G _ 1 1 [d6] U bw fD) ?_;rw[show nZ [d6]=rk 0 d6 from rfl];have yN:=(rk 0 d6).toNat_lt;have qN:=sum.toNat_lt;generalize rk 0 d6=cr at*;refine xS ?_;rw[wrap_u64 _ bw];refine xB ?_ ?_<;>intro h8
        ·refine xS ?_;exact M5 b4 44 (e44 (.inr bQ)) U U U ax
        ·have hE:=e45 bQ;clear e44 e45;refine xS ?_;refine cP (az8 G a2 k c2 es hEl bw) ?_;rintro v B (⟨h0,a8,c8,rfl,rfl⟩|⟨h0,rfl,rfl⟩)
         ·rw[aj bw]at hE;dsimp only[bh,bk,bj];have tJ:(oS es).1.length<=1099511627776:=bw;generalize(oS es).1=body at*;refine xS ?_;refine jz a8 U λhc8=>?_;refine xJ (Zd G a8 body.length c8 body U hc8 tJ) ?_;generalize oR body=fp at*;obtain⟨f,ok⟩:=fp;dsimp only[bG5]at hE ⊢;refine xA ?_;intro b9;refine xB ?_ ?_<;>intro h9
          ·exact aW4
          ·rw[aj bQ]at hE;refine xS ?_;rw[show(4:ae)+(k:ae)+5=(k:ae)+9 from by omega];exact out b4 f _ 0 hE U U U ax
         ·rw[ao bw]at hE;refine xD ?_;refine Kr (by show aN (lx _)=_;grind) (xS ?_);exact M5 b4 45 hE U U U ax
instance:CX be 492 Extern.BytealgCount.count:=⟨λargs w=>run_callFunc_extern (fn:=Tryz.f492) U U U U U args w⟩
theorem M6(bl c2:ab)(cv:au)(hn:xs.length=n):
 TR be G 466 #[.slice a n c,.slice (aN ⟨bl,0,aO⟩) 1 c2] [dp RB 1 a xs,dp RB 1 (aN ⟨bl,0,aO⟩) [cv]] (dX (.int .i64 (cZ xs cv))):=by
 refine bZ U λb O hb hG=>xS ?_
 refine dJ (xs:=[cv]) (j:=0) U U U U U dW U λb1 o1=>xS ?_
 refine Fa U U U (λw hs=>az0 cv hs hn)  ?_
 exact xR
theorem rn(c:au):cZ l c<=l.length:=List.count_le_length
theorem Qu(hn:xs.length=n)(hs:n<=1099511627776):
 TR be G 397 #[.slice a n c] [dp RB 1 a xs] (dX (.int .i64 (n+cZ xs 167+cZ xs 166))):=by
 have h1:=rn xs 167
 have h2:=rn xs 166
 refine dH U λb O hb hG=>?_
 refine xZ ?_
 intro b1
 refine jx b1 (λx=>[gT x]) [167] U (λ_=>rfl) ?_
 refine xJ (M6 G a n c xs b1 1 167 hn) ?_
 refine xZ ?_
 intro b2
 refine jx b2 (λx=>[gT x]) [166] U (λ_=>rfl) ?_
 refine xJ (M6 G a n c xs b2 1 166 hn) ?_
 exact xR
def I6(c:au):Bs:=if c.toNat=167 then[166,1]else if c.toNat=166 then[166,0]else[c]
def rq(l:Bs):Bs:=l.flatMap I6
theorem KS(i:ab)(h:i<xs.length):rq (xs.take (i+1))=rq (xs.take i)++I6 xs[i]:=by
 grind [rq,dO]
theorem wq:(rq l).length<=2*l.length:=by
 unfold rq;induction l<;>grind [I6]
theorem aA0(hn:xs.length=n)(hs:n<=1099511627776):
 TR be G 305 #[.slice a n c] [dp RB 1 a xs] (dC (ay7 (rq xs))):=by
 have h1:=rn xs 167
 have h2:=rn xs 166
 refine dH U λb O hb hG=>?_
 refine xJ (Qu G a n c xs hn hs) ?_
 refine aS5 (cp:=n+cZ xs 167+cZ xs 166) U U U U dW bw bw λa1=>xS ?_
 refine fR [0,9,10] [0] (ι:={p:ab×Bs×ah aX×ab // p.1<=n/\p.2.1=rq (xs.take p.1)}) (λp q_=>(3,.slice p.1.2.2.1 p.1.2.1.length p.1.2.2.2)::(11,.int .i64 p.1.1)::q_) (λp q_=>own 5 1 p.1.2.2.1 p.1.2.1.length p.1.2.2.2 (p.1.2.1.map gT)::q_) (λp=>n - p.1.1) ⟨(0,[],a1,_),bp _,U⟩ ?_
 rintro⟨⟨i,Z,a2,c2⟩,hi,hZ⟩ ih
 dsimp only at hi hZ ih ⊢
 have D5:Z.length<=2*n:=by grind [wq]
 refine xB ?_ ?_<;>intro h3
 ·have Ds:i<xs.length:=bQ;have hT:=KS xs i Ds;rw[<-hZ]at hT;refine xS ?_;refine dJ U U U U U Ds hn λbl o=>xS ?_;rw[show gT xs[i]=.int .u8 xs[i].toNat from rfl];generalize xs[i]=x at*;refine xB ?_ ?_<;>intro h4
  ·rw[I6,ao bQ]at hT;refine xZ ?_;intro b3;refine jx b3 (λx=>[gT x]) [166,1] U (λ_=>rfl) ?_;refine jA U U U U U fD λa3 c3=>xS ?_;exact X.W (ih ⟨(i+1,Z++[166,1],a3,c3),by omega,by grind⟩ bQ)
  ·refine xB ?_ ?_<;>intro h5
   ·rw[I6,aj bQ,ao bQ]at hT;refine xZ ?_;intro b3;refine jx b3 (λx=>[gT x]) [166,0] U (λ_=>rfl) ?_;refine jA U U U U U fD λa3 c3=>xS ?_;exact X.W (ih ⟨(i+1,Z++[166,0],a3,c3),by omega,by grind⟩ bQ)
   ·rw[I6,aj bQ,aj bQ]at hT;refine xZ ?_;intro b3;refine jx b3 (λx=>[gT x]) [x] U (λ_=>rfl) ?_;refine jA U U U U U fD λa3 c3=>xS ?_;exact X.W (ih ⟨(i+1,Z++[x],a3,c3),by omega,by grind⟩ bQ)
 ·have gj:i=n:=bQ;subst gj;rw[bI bw]at hZ;refine xS ?_;exact X.ret hb (.tmps U) ⟨_,⟨a2,c2,by rw[hZ];rfl,U⟩,by rw[hZ];exact bA⟩
def Zg(f:nN):Prop:=
 (f.kind=1\/f.kind=2\/f.kind=3\/f.kind=4)/\f.lW.key.length<=64/\f.lW.val.length<=2048/\f.ptr.key.length<=64/\
 0<=f.ptr.at_/\f.ptr.at_<=4194304/\0<=f.ptr.len/\f.ptr.len<=4194304/\0<=f.fin.count/\f.fin.count<=4194304/\0<=f.fin.print.bytes/\f.fin.print.bytes<=4194304/\0<=f.fin.print.cG/\f.fin.print.cG<=4194304
theorem Fz{fQ:ae}{key val:Bs}{kind:ae}(h:qo fQ key val kind=0):fQ≠0/\1<=key.length/\key.length<=64/\val.length<=2048/\(kind=2->val=[]):=by
 grind [qo]
theorem y8{f:nN}{r:ai}{o:nN}(h:wj f e r o=0):e=0/\r=aP/\o=f:=by
 grind [wj]
theorem j'{f:nN}(h:dD f=0):Zg f:=by
 unfold dD at h;split at h
 ·rename_i hk;split at h
  ·simp at h
  ·obtain⟨h1,_,h3⟩:=y8 h;have h4:=Fz h1;obtain⟨k,r,p,x⟩:=f;simp only[nN.mk.injEq]at h3;obtain⟨_,_,rfl,rfl⟩:=h3;refine⟨by omega,h4.2.2.1,h4.2.2.2.1,by simp,?_⟩;simp
 ·split at h
  ·rename_i hk;split at h
   ·simp at h
   ·obtain⟨h1,h2,h3⟩:=y8 h;have h4:=Fz h1;obtain⟨k,r,p,x⟩:=f;simp only[nN.mk.injEq]at h3;obtain⟨_,rfl,_,rfl⟩:=h3;simp[rT]at h2;refine⟨by omega,by simp,by simp,h4.2.2.1,h2.1,h2.2.1,by grind,h2.2.2.2,?_⟩;simp
  ·split at h
   ·obtain⟨h1,h2,h3⟩:=y8 h;obtain⟨k,r,p,x⟩:=f;simp only[nN.mk.injEq]at h3;obtain⟨_,rfl,rfl,_⟩:=h3;simp[rU]at h2;refine⟨by omega,by simp,by simp,by simp,by simp,by simp,by simp,by simp,h2.1,h2.2.1,h2.2.2.1,h2.2.2.2.1,h2.2.2.2.2.1,h2.2.2.2.2.2⟩
   ·simp at h
def jC(x:ae):az:=gQ x.toNat
theorem mq(x:ae)(h:0<=x):ee.wrap x=((jC x).toNat:ae):=by
 obtain⟨k,rfl⟩:∃k:ab,x=k:=⟨x.toNat,by omega⟩;rw[re,jC];simp
def y9(f:nN):Bs:=
 if f.kind=1 then gn [f.lW.fQ,jC f.lW.key.length]++(f.lW.key++f.lW.val)
 else if f.kind=2 then gn [f.lW.fQ]++f.lW.key
 else if f.kind=3 then gn [f.ptr.fQ]++[cV f.ptr.kind.toNat]++gn [jC f.ptr.at_,jC f.ptr.len]++f.ptr.key
 else gn [jC f.fin.count,jC f.fin.print.bytes,jC f.fin.print.cG,jC f.fin.print.sum.toNat]
def fV(f:nN):Bs:=cV f.kind.toNat::y9 f
theorem rX(h:Zg f):(y9 f).length<=3000:=by
 have h2:=λl=>kS l
 unfold y9
 obtain⟨_,h3,h4,h5,_⟩:=h
 grind
def KT(l:Bs)(e:ae)(v:aR)(B:Y bG):Prop:=
 (e=0/\∃a c,v=.tuple #[.slice a l.length c,.int .i64 0]/\B=[own 5 1 a l.length c (l.map gT)])\/(e≠0/\v=.tuple #[.slice aO 0 0,.int .i64 e]/\B=[])
theorem KU(x:ae)(h:0<=x):dS.wrap x=((cV x.toNat).toNat:ae):=by
 grind [rS]
theorem qa:TR be G 136 #[.agg f.cs.toArray] [] (dC (KT (fV f) (dD f))):=by
 refine dH U λb O hb hG=>?_;refine xP ?_;intro b1;refine xJ (MY G f) ?_;refine xB ?_ ?_<;>intro h1
 ·have h1':dD f≠0:=yz;refine xS ?_;exact X.ret hb (.tmps U) ⟨_,.inr ⟨h1',U,U⟩,bS.nil _⟩
 ·have h0:dD f=0:=yz;have hg:=j' h0;have hlen:=rX f hg;obtain⟨hk,g1,g2,g3,g4,g5,g6,g7,g8,g9,g10,g11,g12,g13⟩:=hg;have out:∀{N vs k H rs} (Z:Bs) (a:ah aX) (c:ab),Z=fV f->lk vs 2=aN (.slice a Z.length c)->lk vs 3=aN (.int .i64 0)->FO H a 5 1 Z.length c (Z.map gT) rs->X be b O aO (.it (.code .ret::k)) ⟨N,vs,[]⟩ H (dC (KT (fV f) (dD f))):=by
   intro N vs k H rs Z a c hZ h2 h3 hf;subst hZ;exact X.ret hb (.tmp h2 (.tmp h3 .nil)) ⟨_,.inl ⟨h0,a,c,U,U⟩,hf.out.trans (ia [_] _)⟩
  refine xS ?_;refine fU 6 [0] ?_;refine xL [0,1,2,3,4,5] ?_;refine X7 U U U U U U U U U U U U U U U U U U U U U U U U U U U U λb5 b6 b7=>xS ?_;rw[KU _ bw];refine xZ ?_;intro b8;refine Ep b8 1 [cV f.kind.toNat] U U U ?_;refine yT 26 (f.kind=1) (¬f.kind=1) ?_ ?_<;>intro k1
  ·refine xS ?_;rw[mq _ bw];refine xZ ?_;intro b9;refine jx b9 (λx=>[tT x]) [f.lW.fQ,jC f.lW.key.length] U (λ_=>rfl) ?_;refine cP (ow G _ 2 2 [f.lW.fQ,jC f.lW.key.length] U bw) ?_;rintro _ _ ⟨a9,c9,rfl,rfl⟩;dsimp only[bh,bk,bj];have v9:=kS [f.lW.fQ,jC f.lW.key.length];simp only[bL,dU]at v9;refine xS ?_;refine jz a9 U λh9=>?_;generalize hv9:gn [f.lW.fQ,jC f.lW.key.length]=w9 at*;refine jA U U U U U fD λa30 c30=>xS ?_;refine Eo U U U U fD λa31 c31=>xS ?_;exact out _ a31 c31 (by rw[fV,y9,ao k1,hv9];simp) U U ax
  ·refine yT 45 (f.kind=2) (¬f.kind=2) ?_ ?_<;>intro k2
   ·refine xZ ?_;intro tu;refine jx tu (λx=>[tT x]) [f.lW.fQ] U (λ_=>rfl) ?_;refine cP (ow G _ 1 1 [f.lW.fQ] U bw) ?_;rintro _ _ ⟨Y5,c10,rfl,rfl⟩;dsimp only[bh,bk,bj];have v10:=kS [f.lW.fQ];simp only[bL,dU]at v10;refine xS ?_;refine jz Y5 U λPA=>?_;generalize hv10:gn [f.lW.fQ]=w10 at*;refine jA U U U U U fD λa30 c30=>xS ?_;refine Eo U U U U fD λa31 c31=>xS ?_;exact out _ a31 c31 (by rw[fV,y9,aj k1,ao k2,hv10];simp) U U ax
   ·refine yT 57 (f.kind=3) (¬f.kind=3) ?_ ?_<;>intro k3
    ·have I7:0<=f.ptr.kind:=by
      unfold dD at h0;rw[aj bw,ao k3]at h0;split at h0
      ·simp at h0
      ·omega
     refine xZ ?_;intro yP;refine jx yP (λx=>[tT x]) [f.ptr.fQ] U (λ_=>rfl) ?_;refine cP (ow G _ 1 1 [f.ptr.fQ] U bw) ?_;rintro _ _ ⟨Ig,c11,rfl,rfl⟩;dsimp only[bh,bk,bj];have v11:=kS [f.ptr.fQ];simp only[bL,dU]at v11;refine xS ?_;refine jz Ig U λh11=>?_;generalize hv11:gn [f.ptr.fQ]=w11 at*;refine jA U U U U U fD λa30 c30=>xS ?_;rw[KU _ I7];refine xZ ?_;intro b40;refine jx b40 (λx=>[gT x]) [cV f.ptr.kind.toNat] U (λ_=>rfl) ?_;refine jA U U U U U fD λa32 c32=>xS ?_;rw[mq _ bw];rw[mq _ bw];refine xZ ?_;intro Dn;refine jx Dn (λx=>[tT x]) [jC f.ptr.at_,jC f.ptr.len] U (λ_=>rfl) ?_;refine cP (ow G _ 2 2 [jC f.ptr.at_,jC f.ptr.len] U bw) ?_;rintro _ _ ⟨a12,c12,rfl,rfl⟩;dsimp only[bh,bk,bj];have v12:=kS [jC f.ptr.at_,jC f.ptr.len];simp only[bL,dU]at v12;refine xS ?_;refine jz a12 U λh12=>?_;generalize hv12:gn [jC f.ptr.at_,jC f.ptr.len]=w12 at*;refine jA U U U U U fD λa33 c33=>xS ?_;refine Eo U U U U fD λa34 c34=>xS ?_;exact out _ a34 c34 (by rw[fV,y9,aj k1,aj k2,ao k3,hv11,hv12];simp) U U ax
    ·refine xT 85 ?_ ?_<;>intro q4
     ·refine xS ?_;rw[mq _ bw];rw[mq _ bw];rw[mq _ bw];rw[mq _ bw];refine xZ ?_;intro Ic;refine jx Ic (λx=>[tT x]) [jC f.fin.count,jC f.fin.print.bytes,jC f.fin.print.cG,jC f.fin.print.sum.toNat] U (λ_=>rfl) ?_;refine cP (ow G _ 4 4 [jC f.fin.count,jC f.fin.print.bytes,jC f.fin.print.cG,jC f.fin.print.sum.toNat] U bw) ?_;rintro _ _ ⟨Qo,c13,rfl,rfl⟩;dsimp only[bh,bk,bj];have v13:=kS [jC f.fin.count,jC f.fin.print.bytes,jC f.fin.print.cG,jC f.fin.print.sum.toNat];simp only[bL,dU]at v13;refine xS ?_;refine jz Qo U λh13=>?_;generalize hv13:gn [jC f.fin.count,jC f.fin.print.bytes,jC f.fin.print.cG,jC f.fin.print.sum.toNat]=w13 at*;refine jA U U U U U fD λa30 c30=>xS ?_;exact out _ a30 c30 (by rw[fV,y9,aj k1,aj k2,aj k3,hv13];simp) U U ax
     ·simp at q4;omega
instance(x y:ae):FJ be 319 [.int .u64 x,.int .u64 y] [] (.int .i64 (oJ x y)):=⟨λG=>U0 G x y⟩
instance(x y:ae):FJ be 332 [.int .u32 x,.int .u32 y] [] (.int .i64 (oJ x y)):=⟨λG=>IW G x y⟩
instance(x y:ae):FJ be 404 [.int .i64 x,.int .i64 y] [] (.int .i64 (oJ x y)):=⟨λG=>Cb G x y⟩
instance(x y:Bs):FJ be 320 [bn x,bn y] [] (.int .i64 (MT x y)):=⟨λG=>U1 G x y⟩
theorem ux{l:Bs}{v:aR}{B:Y bG}(h:KT l e v B):∃a n c,v=.tuple #[.slice a n c,.int .i64 e]/\(e=0->n=l.length)/\bS B [cnd (e=0) (own 5 1 a l.length c (l.map gT))]:=by
 rcases h with⟨h0,a,c,rfl,rfl⟩|⟨h0,rfl,rfl⟩
 ·exact⟨a,_,c,by rw[h0],λ_=>rfl,Yo _ _ _⟩
 grind [XZ]
def Ey(esc:Bs):Bs:=Cd (jC esc.length) 3
def AI(esc:Bs):Bs:=[167]++Ey esc++esc++Cd (jC (nZ [Ey esc,esc]).toNat) 5
def oA(f:nN):Bs:=AI (rq (fV f))
theorem Ce:TR be G 203 #[.agg f.cs.toArray] [] (dC (KT (oA f) (dD f))):=by
 refine dH U λb O hb hG=>?_;refine xP ?_;intro b1;refine cP (qa G f) ?_;rintro v B (⟨h0,a4,c4,rfl,rfl⟩|⟨h0,rfl,rfl⟩)
 ·refine xD ?_;have hg:=rX f (j' h0);have zX:(fV f).length<=3001:=by grind [fV]
  unfold oA;generalize fV f=body at*;refine xS ?_;refine jz a4 U λhc4=>?_;refine cP (aA0 G a4 body.length c4 body U bw) ?_;rintro v B ⟨a6,c6,rfl,rfl⟩;dsimp only[bh,bk,bj];have Ia:=wq body;generalize rq body=es at*;refine xS ?_;rw[mq _ bw];refine cP (I4 G (jC es.length) 3 eK) ?_;intro v B hq;have hes:(jC (es.length:ae)).toNat=es.length:=by
   grind [jC,UInt64.toNat_ofNat']
  rw[ao bw]at hq;obtain⟨a7,rfl,rfl⟩:=hq;dsimp only[bh,bk,bj];have Tp:=AE (jC es.length) 3;unfold AI;rw[show Ey es=Cd (jC es.length) 3 from rfl];generalize Cd (jC es.length) 3=len at*;refine xZ ?_;intro b8;refine jz a7 Tp.symm λh7=>?_;refine jz a6 U λh6=>?_;refine bm5 b8 (x:=len) (x':=es) Tp (bz _) U h6 ?_;refine xJ (Fv G _ 2 2 [len,es] U bw fD) ?_;have yN:=(nZ [len,es]).toNat_lt;generalize nZ [len,es]=cr at*;dsimp only[UY];refine xS ?_;rw[mq _ bw];refine cP (I4 G (jC cr.toNat) 5 eK) ?_;intro v B hq;have hes5:(jC (cr.toNat:ae)).toNat=cr.toNat:=by
   grind [jC,UInt64.toNat_ofNat']
  rw[ao bw]at hq;obtain⟨a9,rfl,rfl⟩:=hq;dsimp only[bh,bk,bj];have h5l:=AE (jC cr.toNat) 5;generalize Cd (jC cr.toNat) 5=sum at*;refine xZ ?_;intro tu;refine Ep tu 1 [167] U U U ?_;refine jA U U U U Tp fD λIg c11=>xS ?_;refine jA U U U U U fD λa12 c12=>xS ?_;refine jz a9 h5l.symm λh9=>?_;refine jA U U U U h5l fD λQo c13=>xS ?_;exact X.ret hb (.tmps U) ⟨_,.inl ⟨h0,Qo,c13,U,U⟩,ia [_] _⟩
 ·refine xD ?_;refine xB ?_ ?_<;>intro h1
  ·refine xS ?_;exact X.ret hb (.tmps U) ⟨_,.inr ⟨h0,U,U⟩,bS.nil _⟩
  ·exact aD bQ h0
instance(x:ae):FJ be 473 [.int .i64 x] [] (.int .i64 (if x=0 then 1 else 0)):=⟨λG=>by
 refine dH U λb O hb hG=>?_;refine xB ?_ ?_<;>intro h
 ·refine xS ?_;exact cT hb (.tmps U) ⟨by rw[ao bQ];rfl,U⟩
 ·refine xS ?_;exact cT hb (.tmps U) ⟨by rw[aj bQ];rfl,U⟩⟩
instance:CX be 497 Extern.BytealgCompare.compare:=⟨λargs w=>run_callFunc_extern (fn:=Tryz.f497) U U U U U args w⟩
theorem Zh{P:aT}{O:de}{H:Y bG}{w:aV}{a a2:ah aX}{n c n2 c2:ab}{xs ys:Y au}(hs:Sat O H w)[hf:BQ H a RB 1 xs][MI:BQ H a2 RB 1 ys](hn:xs.length=n)(vm:ys.length=n2):
 (Extern.BytealgCompare.compare #[.slice a n c,.slice a2 n2 c2]).run P w=.ok (.int .i64 (dY xs ys)) w:=by
 have h1:=uG (P:=P) (a:=a) (c:=c) hs hn
 have h2:=uG (P:=P) (a:=a2) (c:=c2) hs vm
 have h3:=Lib.run_compareString (P:=P) ⟨xs.toArray⟩ ⟨ys.toArray⟩ w
 change gz P (do pure (goInt (Extern.BytealgCompare.cmp (<-Extern.Bytes.bytesOf (.slice a n c)) (<-Extern.Bytes.bytesOf (.slice a2 n2 c2))))) w=_
 change gz P (do pure (goInt (Extern.BytealgCompare.cmp (<-Extern.Bytes.bytesOf (.string ⟨xs.toArray⟩)) (<-Extern.Bytes.bytesOf (.string ⟨ys.toArray⟩))))) w=_ at h3
 rw[cb,h1,bJ,cb,h2,bJ]
 exact h3
theorem M7(a2:ah aX)(n c n2 c2:ab)(xs ys:Bs)(hn:xs.length=n)(vm:ys.length=n2):
 TR be G 474 #[.slice a n c,.slice a2 n2 c2] [dp RB 1 a xs,dp RB 1 a2 ys] (dX (.int .i64 (dY xs ys))):=by
 refine bZ U λb O hb hG=>xS ?_
 refine Fa U U U (λw hs=>Zh hs hn vm)  ?_
 exact xR
def rF(x y:Rec):ae:=
 if dD (gv x)≠0\/dD (gv y)≠0 then oJ (if dD (gv x)=0 then 1 else 0) (if dD (gv y)=0 then 1 else 0)
 else Xy [oJ x.fQ.toNat y.fQ.toNat,dY (fV (gv x)) (fV (gv y))]
instance bq0(x y:Rec):FJ be 418 [.agg x.cs.toArray,.agg y.cs.toArray] [] (.int .i64 (rF x y)):=⟨λG=>by
 refine bZ U λb O hb hG=>?_;refine xP ?_;intro b2;refine xP ?_;intro b3;refine cP (qa G (gv x)) ?_;intro v B hq;obtain⟨a1,n1,c1,rfl,D7,Tq⟩:=ux hq;refine X.dE (je Tq _) (xD ?_);refine cP (qa G (gv y)) ?_;intro v B hq;obtain⟨a2,n2,c2,rfl,vm,hB2⟩:=ux hq;refine X.dE (je hB2 _) ?_;dsimp only[bh,bk,bj];have e0:rF x y=if dD (gv x)≠0\/dD (gv y)≠0 then oJ (if dD (gv x)=0 then 1 else 0) (if dD (gv y)=0 then 1 else 0)else Xy [oJ x.fQ.toNat y.fQ.toNat,dY (fV (gv x)) (fV (gv y))]:=U;have g1:dD (gv x)=0->(fV (gv x)).length<=3001:=bG7;have g2:dD (gv y)=0->(fV (gv y)).length<=3001:=bG7;generalize fV (gv x)=bx1 at*;generalize fV (gv y)=bx2 at*;generalize dD (gv x)=e1 at*;generalize dD (gv y)=e2 at*;refine xT 23 ?_ ?_<;>intro h1
 ·refine xS ?_;exact cT hb (.tmps U) ⟨by rw[e0.trans (ao (.inl bQ))];rfl,U⟩
 ·refine xB ?_ ?_<;>intro h2
  ·refine xS ?_;exact cT hb (.tmps U) ⟨by rw[e0.trans (ao (.inr bQ))];rfl,U⟩
  ·have z1:e1=0:=bQ;have z2:e2=0:=bQ;rw[aj (by simp[z1,z2])]at e0;refine XS z1 ?_;refine XS z2 ?_;have g1:=g1 z1;have g2:=g2 z2;have D7:=D7 z1;have vm:=vm z2;subst D7 vm;refine jz a1 U λ_=>?_;refine jz a2 U λ_=>?_;refine xJ (M7 G a1 a2 _ c1 _ c2 bx1 bx2 U U) ?_;refine xZ ?_;intro b5;refine jx b5 (λx=>[bR x]) [oJ x.fQ.toNat y.fQ.toNat,dY bx1 bx2] U (λ_=>rfl) ?_;refine xJ (YP G _ _ _ [oJ x.fQ.toNat y.fQ.toNat,dY bx1 bx2] U dW) ?_;exact cT hb (.tmps U) ⟨by rw[e0];rfl,U⟩⟩
end
section
variable(b:Bs)(G:dA)(p:ab)(a:ah aX)(n c:ab)(xs:Bs)(at_:ab)
theorem yQ(m:ab)(h:(cX b m).2.2=0):9<=(cX b m).2.1/\(m:ae)+(cX b m).2.1<=b.length:=by
 have hl:=Du ((b.drop m).drop 1);unfold cX at h ⊢;split at h
 ·simp at h
 ·rename_i h1
  rw[aj h1]
  simp only[gS]at h ⊢
  grind [tU]
def kV(b:Bs)(at_:ab):ae:=dT (b.drop at_) 167
def Dv(b:Bs)(a:ab):ab:=if 0<=kV b (a+1)then a+1+(kV b (a+1)).toNat else b.length
def Zi:ab->Bs->ab->nN×ae×ae
 |0,_,_=>(.zero,-1,0)
 |f+1,b,at_=>
  if b.length<=at_ then(.zero,-1,0)
  else if kV b at_<0 then(.zero,-1,0)
  else if(cX (b.take (Dv b (at_+(kV b at_).toNat))) (at_+(kV b at_).toNat:ab)).2.2=0 then
   ((cX (b.take (Dv b (at_+(kV b at_).toNat))) (at_+(kV b at_).toNat:ab)).1,(at_+(kV b at_).toNat:ab),(cX (b.take (Dv b (at_+(kV b at_).toNat))) (at_+(kV b at_).toNat:ab)).2.1)
  else Zi f b (at_+(kV b at_).toNat+1)
def ga(b:Bs)(at_:ab):nN×ae×ae:=Zi (b.length+1) b at_
theorem Cf:kV b at_<0\/at_+(kV b at_).toNat<b.length:=by
 unfold kV;have h1:=Lib.indexByte_ge (b.drop at_) 167;rcases AG (b.drop at_) 167 with h|h;all_goals grind
theorem Zj(a:ab)(h:a<b.length):a<Dv b a/\Dv b a<=b.length:=by
 unfold Dv;split
 ·rcases Cf b (a+1)with h1|h1<;>omega
 ·omega
theorem Zk:∀(f:ab) (b:Bs) (at_:ab),(Zi f b at_).2.1= -1\/((at_:ae)<=(Zi f b at_).2.1/\9<=(Zi f b at_).2.2/\(Zi f b at_).2.1+(Zi f b at_).2.2<=b.length)
 |0,_,_=>.inl U
 |f+1,b,at_=>by
  unfold Zi
  split
  ·grind
  ·split
   ·grind
   ·rename_i h1 h2;split
    ·rename_i h3
     have h4:=yQ _ _ h3
     grind
    ·rcases Zk f b (at_+(kV b at_).toNat+1)with h4|h4
     ·exact .inl h4
     ·right;omega
theorem aA2(hn:xs.length=n)(qn:n<=c)(hs:n<=1099511627776)(L0:at_<=1099511627776):
 TR be G 422 #[.slice a n c,.int .i64 at_] [dp RB 1 a xs] (dX (.tuple #[.int .i64 (ga xs at_).2.1,.agg (ga xs at_).1.cs.toArray,.int .i64 (ga xs at_).2.2])):=by
 refine bZ U λb O hb hG=>?_
 have out:∀{N vs k H rs} (b5:ab) (f:nN) (x e:ae),ga xs at_=(f,x,e)->lk vs 5=aN (bu b5)->lk vs 4=aN (.int .i64 x)->lk vs 6=aN (.int .i64 e)->FB H b5 220 f.cs rs->X be b O aO (.it (.code .ret::k)) ⟨N,vs,[]⟩ H (dX (.tuple #[.int .i64 (ga xs at_).2.1,.agg (ga xs at_).1.cs.toArray,.int .i64 (ga xs at_).2.2])):=by
  intro N vs k H rs b5 f x e he h1 h2 h3 hf;exact cT hb (.tmp h2 (.jf h1 U (.tmp h3 .nil))) ⟨by rw[he];rfl,U⟩
 refine xA ?_
 intro b5
 refine X.dE (Hs':=[bx b5 220 nN.zero.cs,dp RB 1 a xs]) (kg U) ?_
 refine XQ [5] [] (ι:={_u:aA // ga xs at_=(.zero,-1,0)}) (λ_ q_=>q_) (λ_ q_=>q_) (λu=>?_) (λK fin=>?_)
 ·obtain⟨_,hu⟩:=u;refine xS ?_;exact out b5 .zero (-1) 0 hu U U U ax
 ·refine fR [0,5] [] (ι:={p:ab // p<=at_+n/\∃f,n<p+f/\ga xs at_=Zi f xs p}) (λp q_=>(7,.int .i64 p.1)::q_) (λp q_=>q_) (λp=>at_+n - p.1) ⟨at_,by omega,n+1,by omega,by rw[ga,hn]⟩ ?_;rintro⟨p,hp,f,hf,hE⟩ ih;dsimp only at hp hf hE ih ⊢;refine yB (p<n) (n<=p) ?_ ?_<;>intro hpn
  ·obtain⟨f,rfl⟩:∃q,f=q+1:=by
    cases f with
    |zero=>omega
    |succ q=>exact⟨q,U⟩
   rw[Zi,aj bw]at hE;refine xS ?_;refine pj (l:=p) (h:=n) U U U hn (Bd.at U U) Bd.no bw (bz _) qn λa1 c1 Fu=>?_;rw[Fy xs p n hn];refine xJ (uI G a1 (n - p) c1 (xs.drop p) 167 UU) ?_;rw[show dT (xs.drop p) 167=kV xs p from rfl];have hq:=Cf xs p;generalize kV xs p=q at*;dsimp only[bR];refine xB ?_ ?_<;>intro h2
   ·rw[ao Cc]at hE;refine xS ?_;exact X.W (fin ⟨(),hE⟩)
   ·rw[aj Cc]at hE;obtain⟨q,rfl⟩:∃k:ab,q=k:=⟨q.toNat,by simp at h2;omega⟩;simp only[gS]at hE;have hm:p+q<n:=bw;obtain⟨m,PC⟩:∃m,m=p+q:=⟨_,U⟩;rw[<-PC]at hE hm;refine xS ?_;rw[show(p:ae)+(q:ae)=(m:ae)from by omega];refine pj (l:=m+1) (h:=n) U U U hn (Bd.at U dW) Bd.no bw (bz _) qn λa2 c2 Qq=>?_;rw[Fy xs (m+1) n hn];refine xJ (uI G a2 (n - (m+1)) c2 (xs.drop (m+1)) 167 UU) ?_;rw[show dT (xs.drop (m+1)) 167=kV xs (m+1)from rfl];have hse:=Zj xs m bw;have Qv:Dv xs m=if 0<=kV xs (m+1)then m+1+(kV xs (m+1)).toNat else xs.length:=U;have Tc:=Cf xs (m+1);generalize kV xs (m+1)=q2 at*;generalize Dv xs m=e at*;dsimp only[bR];refine xS ?_;refine iK (ι:=aA) (λ_=>([(0,.slice a n c),(5,bu b5),(7,.int .i64 m),(9,.int .i64 e)],[bx b5 220 nN.zero.cs,dp RB 1 a xs])) (λ_=>?_) (λK2 y7=>?_)
    ·dsimp only;refine xS ?_;refine pj (l:=0) (h:=e) U U U hn Bd.no (Bd.at U U) bw bw qn λa3 c3 hc3=>?_;simp only[Nat.sub_zero,gx];have Ia:(xs.take e).length=e:=fD;refine xJ (rE G a3 e c3 (xs.take e) m Ia bw bw) ?_;generalize cX (xs.take e) m=r at*;obtain⟨fr,sz,er⟩:=r;dsimp only[U']at hE ⊢;refine xA ?_;intro yP;refine xB ?_ ?_<;>intro h3
     ·rw[ao M8]at hE;refine xS ?_;refine fG (sG [0,1,2]) [bx yP 220 fr.cs] U ?_;refine xL [0,1,2] ?_;refine xS ?_;exact out b5 fr m sz hE U U U ax
     ·rw[aj M8]at hE;refine xS ?_;exact X.less (ih ⟨m+1,by omega,f,by omega,hE⟩ oQ) (s3_ U U (dI U dW)) bA
    ·refine xB ?_ ?_<;>intro h3
     ·have Qc:0<=q2:=M8;rw[ao Qc]at Qv;exact aW5
     ·rw[aj M8]at Qv;exact aW5
  ·have h0:ga xs at_=(.zero,-1,0):=by
    rw[hE];cases f with
    |zero=>rfl
    |succ f=>rw[Zi,ao bw]
   refine xS ?_;exact X.W (fin ⟨(),h0⟩)
structure tK where
 f:nN
 at_:ae
 size:ae
deriving DecidableEq
abbrev tK.cs(x:tK):Y aR:=[.int .i64 x.f.kind,.int .u64 x.f.lW.fQ.toNat,.int .i64 x.f.lW.kind,bn x.f.lW.key,bn x.f.lW.val,
 .int .u64 x.f.ptr.fQ.toNat,.int .i64 x.f.ptr.kind,.int .i64 x.f.ptr.at_,.int .i64 x.f.ptr.len,bn x.f.ptr.key,
 .int .i64 x.f.fin.count,.int .i64 x.f.fin.print.bytes,.int .i64 x.f.fin.print.cG,.int .u32 x.f.fin.print.sum.toNat,.int .i64 x.at_,.int .i64 x.size]
def mw:ab->Bs->ab->Y tK
 |0,_,_=>[]
 |f+1,b,at_=>if(ga b at_).2.1<0 then[]else⟨(ga b at_).1,(ga b at_).2.1,(ga b at_).2.2⟩::mw f b ((ga b at_).2.1+(ga b at_).2.2).toNat
def mG(b:Bs):Y tK:=mw (b.length+1) b 0
theorem rG:(ga b at_).2.1= -1\/((at_:ae)<=(ga b at_).2.1/\9<=(ga b at_).2.2/\(ga b at_).2.1+(ga b at_).2.2<=b.length):=Zk _ _ _
theorem Qw:TR be G 341 #[.slice a n c] [] (dC λv B=>∃p,v=.func (.func 421) #[] #[bu p]/\B=[bx p 55 [.slice a n c]]):=YS
theorem Qx(hn:xs.length=n)(qn:n<=c)(hs:n<=1000000000000):
 IT be G 421 [bu p] [bx p 55 [.slice a n c],dp RB 1 a xs] (λx:tK=>[.agg x.cs.toArray]) (mG xs):=by
 intro l I J hY
 refine bZ U λb O hb hG=>xD ?_
 refine X.loop (ι:={q:ab×Y tK // q.1<=n/\∃f,n<q.1+f/\mG xs=q.2++mw f xs q.1}) (λq=>([(0,.func (.yield l) #[] #[]),(1,bu p),(3,.int .i64 q.1.1)],[bx p 55 [.slice a n c],dp RB 1 a xs]++I q.1.2)) (λq=>n - q.1.1) ⟨(0,[]),bp _,n+1,by omega,by grind [mG]⟩ (Sub.of U) (bS.refl _) ?_
 rintro⟨⟨i,pre⟩,hi,f,hf,hE⟩ ih
 dsimp only at hi hf hE ih ⊢
 dsimp only[bh,bk,bj]
 obtain⟨f,rfl⟩:∃q,f=q+1:=by
  cases f<;>grind
 rw[mw]at hE
 refine xJ (aA2 G a n c xs i hn qn bw bw) ?_
 have hr:=rG xs i
 generalize ga xs i=r at*
 obtain⟨fr,x,sz⟩:=r
 dsimp only at hr hE ⊢
 refine xA ?_
 intro b5
 refine xT 16 ?_ ?_<;>intro h1
 ·rw[ao bQ,bj]at hE;refine xS ?_;refine X.ret hb (.tmps U) ⟨_,.inl U,?_⟩;rw[hE];exact bS.drop _ _
 ·have h0:¬x<0:=bQ;rw[aj h0]at hE;have hx:(i:ae)<=x/\9<=sz/\x+sz<=xs.length:=bw;refine xS ?_;refine SS hG (hY pre ⟨fr,x,sz⟩ _ hE) U U U U (v8 [_,_,_] (I pre)) ?_;rintro v B (⟨rfl,rfl⟩|⟨rfl,rfl⟩)
  ·refine X.dE (v8 _ _) (xD ?_);rw[aj (show ¬sz<1 by omega)];refine xS ?_;refine X.less (ih ⟨((x+sz).toNat,pre++[⟨fr,x,sz⟩]),by omega,f,by omega,by rw[hE];simp⟩ bQ) (s3_ U U (dI U fD)) (bS.drop _ _)
  ·refine X.dE (v8 _ _) (xD ?_);refine X.ret hb (.tmps U) ⟨_,.inr U,bS.drop _ _⟩
theorem AJ{α:Type}(p:α->ai):∀(l:Y α) (i:ab),decide (0<=dM p i l)=l.any p
 |[],i=>by simp[dM]
 |x::r,i=>by
  unfold dM;cases h:p x
  ·simp[h,AJ p r (i+1)]
  ·simp[h]
theorem oT{α:Type}[BEq α][LawfulBEq α](v:α)(l:Y α):decide (dM (λy=>v==y) 0 l≥0)=l.contains v:=by
 grind [AJ]
abbrev RK:Rp ae:=cy λx=>[.int .i64 x]
theorem aA3(xs:Y ae)(v:ae)(hn:xs.length=n)(hs:n<=1099511627776):
 TR be G 423 #[.slice a n c,.int .i64 v] [dp RK 1 a xs] (dX (bR (dM (λy=>v==y) 0 xs))):=by
 refine bZ U λb O hb hG=>xS ?_
 refine fR [0,1] [] (ι:={i:ab // i<=n/\dM (λy=>v==y) 0 xs=dM (λy=>v==y) i (xs.drop i)}) (λi q_=>(7,bR n)::(8,bR i.1)::q_) (λi q_=>q_) (λi=>n - i.1) ⟨0,bp _,U⟩ ?_
 rintro⟨i,hi,hE⟩ ih
 dsimp only
 refine xB ?_ ?_<;>intro h
 ·exact bG8
 ·exact U5
theorem Zl(xs:Y ae)(v:ae)(hn:xs.length=n)(hs:n<=1099511627776):
 TR be G 342 #[.slice a n c,.int .i64 v] [dp RK 1 a xs] (dX (.bool (xs.contains v))):=by
 refine bZ U λb O hb hG=>?_
 refine xJ (aA3 G a n c xs v hn hs) ?_
 exact cT hb (.tmps U) ⟨by simp only[mv,bR];rw[oT],U⟩
abbrev RU:Rp av:=cy λx=>[.int .u32 x.toNat]
theorem aA4(xs:Y av)(v:av)(hn:xs.length=n)(hs:n<=1099511627776):
 TR be G 265 #[.slice a n c,.int .u32 v.toNat] [dp RU 1 a xs] (dX (bR (dM (λy=>v==y) 0 xs))):=by
 refine bZ U λb O hb hG=>xS ?_
 refine fR [0,1] [] (ι:={i:ab // i<=n/\dM (λy=>v==y) 0 xs=dM (λy=>v==y) i (xs.drop i)}) (λi q_=>(7,bR n)::(8,bR i.1)::q_) (λi q_=>q_) (λi=>n - i.1) ⟨0,bp _,U⟩ ?_
 rintro⟨i,hi,hE⟩ ih
 dsimp only
 refine xB ?_ ?_<;>intro h
 ·have hi:i<xs.length:=bQ;refine xS ?_;refine dJ U U U U U hi hn λbl o=>xS ?_;rw[ky _ xs i hi]at hE;refine xB ?_ ?_<;>intro h2
  ·rw[ao (by grind [fk])]at hE;exact az5
  ·exact bT9
 ·exact U5
theorem Zm(xs:Y av)(v:av)(hn:xs.length=n)(hs:n<=1099511627776):
 TR be G 170 #[.slice a n c,.int .u32 v.toNat] [dp RU 1 a xs] (dX (.bool (xs.contains v))):=by
 refine bZ U λb O hb hG=>?_
 refine xJ (aA4 G a n c xs v hn hs) ?_
 exact cT hb (.tmps U) ⟨by simp only[mv,bR];rw[oT],U⟩
abbrev RS:Rp Bs:=cy λx=>[bn x]
theorem aA5(xs:Y Bs)(v:Bs)(hn:xs.length=n)(hs:n<=1099511627776):
 TR be G 140 #[.slice a n c,bn v] [dp RS 1 a xs] (dX (bR (dM (λy=>v==y) 0 xs))):=by
 refine bZ U λb O hb hG=>xS ?_
 refine fR [0,1] [] (ι:={i:ab // i<=n/\dM (λy=>v==y) 0 xs=dM (λy=>v==y) i (xs.drop i)}) (λi q_=>(7,bR n)::(8,bR i.1)::q_) (λi q_=>q_) (λi=>n - i.1) ⟨0,bp _,U⟩ ?_
 rintro⟨i,hi,hE⟩ ih
 dsimp only
 refine xB ?_ ?_<;>intro h
 ·exact bG8
 ·exact U5
theorem FD(xs:Y Bs)(v:Bs)(hn:xs.length=n)(hs:n<=1099511627776):
 TR be G 77 #[.slice a n c,bn v] [dp RS 1 a xs] (dX (.bool (xs.contains v))):=by
 refine bZ U λb O hb hG=>?_
 refine xJ (aA5 G a n c xs v hn hs) ?_
 exact cT hb (.tmps U) ⟨by simp only[mv,bR];rw[oT],U⟩
abbrev tK.atf(x:tK):Y aR:=[.int .i64 x.at_,.agg x.f.cs.toArray]
theorem Va:TR be G 377 #[.slice a n c] [] (dC λv B=>∃p,v=.func (.func 450) #[] #[bu p]/\B=[bx p 55 [.slice a n c]]):=YS
theorem Vb(hn:xs.length=n)(qn:n<=c)(hs:n<=1000000000000):
 IT be G 450 [bu p] [bx p 55 [.slice a n c],dp RB 1 a xs] (λx:tK=>x.atf) (mG xs):=by
 refine IT.mk λl I J hY=>?_
 refine bZ U λb O hb hG=>xD ?_
 refine xP ?_
 intro y
 refine cP (Qw G a n c) ?_
 rintro v B ⟨q,rfl,rfl⟩
 refine xD ?_
 refine L6 hG hb (Qx G q a n c xs hn qn hs) U (λpre=>[bx y 561 [.func (.yield l) #[] #[]],I pre]) [bx y 561 [.func (.yield l) #[] #[]],J] (F:=[bx p 55 [.slice a n c]]) ?_ (λ_=>rfl) eK ?_ ?_ ?_
 ·dsimp only[bh,bk,bj];exact bA
 ·intro b' β' l' r pre x post hx mM BS hr;refine xA ?_;intro z;refine qO mM hr (xS ?_);refine tM BS (hY pre x post hx) U U U U ?_ ?_
  ·refine xD ?_;exact lT mM
  ·refine xD ?_;exact aw8 mM
 ·intro D;refine xD ?_;exact Yi hb (F:=[bx q 55 [.slice a n c],dp RB 1 a xs,bx y 561 [.func (.yield l) #[] #[]],I (mG xs),bx p 55 [.slice a n c]]) (bS.refl _) (.tmps U) ⟨_,.inl U,bA⟩
 ·intro D;dsimp only[bh,bk,bj];exact XR.mark hb (F:=[bx q 55 [.slice a n c],dp RB 1 a xs,bx y 561 [.func (.yield l) #[] #[]],J,bx p 55 [.slice a n c]]) (bS.refl _) (.tmps U) ⟨_,.inr U,bA⟩
theorem FE:∀(f:ab) (b:Bs) (at_:ab),(mw f b at_).length<=b.length - at_
 |0,_,_=>bp _
 |f+1,b,at_=>by
  unfold mw;have h:=rG b at_;split
  ·exact bp _
  ·have h2:=FE f b ((ga b at_).2.1+(ga b at_).2.2).toNat;rw[bL];omega
theorem nt:(mG b).length<=b.length:=bo (FE _ b 0) (Nat.sub_le _ _)
def jD(b:Bs):Prn:=⟨b.length,(mG b).length,nZ [b]⟩
theorem FF(hn:xs.length=n)(qn:n<=c)(hs:n<=1000000000000):
 TR be G 281 #[.slice a n c] [dp RB 1 a xs] (dX (.agg (jD xs).cs.toArray)):=by
 refine dH U λb O hb hG=>?_
 have hlen:=nt xs
 refine xA ?_
 intro b2
 refine xZ ?_
 intro b6
 refine Ki b6 hn qn ?_
 refine xJ (Fv G _ 1 1 [xs] U bw fD) ?_
 generalize hcr:nZ [xs]=cr at*
 dsimp only[UY]
 refine xA ?_
 intro b3
 refine cP (Va G a n c) ?_
 rintro v B ⟨q,rfl,rfl⟩
 refine xD ?_
 refine rL hG hb (Vb G q a n c xs hn qn hs) U (λpre=>[bx b3 216 [.int .i64 n,.int .i64 pre.length,.int .u32 cr.toNat]]) [bx b3 216 [.int .i64 n,.int .i64 0,.int .u32 cr.toNat]] U (λ_=>rfl) eK ?_ ?_
 ·intro b' β' l' r pre x post hx mM BS hr;have tJ:pre.length<n:=bQ;refine xS ?_;refine qO mM hr (xS ?_);rw[show(pre.length:ae)+1=((pre++[x]).length:ab)from by simp];exact lT mM
 ·intro D;refine xD ?_;refine z7 hb (l:=[.agg #[.int .i64 n,.int .i64 (mG xs).length,.int .u32 cr.toNat]]) (.jf U cE .nil) ⟨_,⟨?_,U⟩,bS.nil _⟩;rw[jD,hcr,hn];rfl
theorem FG:∀(f:ab) (b:Bs) (at_:ab),∀x∈mw f b at_,(at_:ae)<=x.at_/\9<=x.size/\x.at_+x.size<=b.length
 |0,_,_,x,hx=>by cases hx
 |f+1,b,at_,x,hx=>by
  unfold mw at hx;have h:=rG b at_;split at hx
  ·cases hx
  ·rename_i h0
   rcases cW.1 hx with rfl|hx
   ·grind
   ·have:=FG f b _ x hx;omega
theorem Vc:∀x∈mG b,0<=x.at_/\9<=x.size/\x.at_+x.size<=b.length:=λx hx=>FG _ b 0 x hx
abbrev rY(ks:Y ae):Y ae:=if ks=[]then[1,2]else ks
def il(b:Bs)(ks:Y ae):Y tK:=(mG b).filter λx=>(rY ks).contains x.f.kind
theorem zb(a2:ah aX)(n2 c2:ab)(ks:Y ae)(hn:xs.length=n)(qn:n<=c)(hs:n<=1000000000)(vm:ks.length=n2)(vQ:n2<=1000):
 TR be G 233 #[.slice a n c,.slice a2 n2 c2] [dp RB 1 a xs,dp RK 1 a2 ks] (dC (UZ tK.cs 365 16 (il xs ks))):=by
 refine bZ U λb O hb hG=>?_
 have hlen:=nt xs
 refine xP ?_
 intro b3
 refine tq [0,3] [0,1] (ι:={p:ah aX×ab×ab // (rY ks).length=p.2.1/\p.2.1<=1000}) (λp q_=>q_) (λp q_=>bx b3 464 [.slice p.1.1 p.1.2.1 p.1.2.2]::dp RK 1 p.1.1 (rY ks)::q_) (λp=>?_) (λK fin=>?_)
 ·obtain⟨⟨a3,n3,c3⟩,h3,h4⟩:=p;dsimp only at h3 h4 ⊢;have Qv:il xs ks=(mG xs).filter λx=>(rY ks).contains x.f.kind:=U;generalize rY ks=kk at*;refine xS ?_;refine kq U U λb5=>?_;refine C7 tK.cs 365 16 b5 U (xS ?_);refine cP (Qw G a n c) ?_;rintro v B ⟨q,rfl,rfl⟩;refine xD ?_;refine rL hG hb (Qx G q a n c xs hn qn bw) U (λpre=>[bx b3 464 [.slice a3 n3 c3],dp RK 1 a3 kk,mS tK.cs 365 16 362 b5 (pre.filter λx=>kk.contains x.f.kind)]) [bx b3 464 [.slice a3 n3 c3],dp RK 1 a3 kk,mS tK.cs 365 16 362 b5 []] U (λ_=>rfl) eK ?_ ?_
  ·intro b' β' l' r pre x post hx mM BS hr;have tJ:(pre.filter λx=>kk.contains x.f.kind).length<=n:=by
    grind
   have hfx:(pre++[x]).filter (λx=>kk.contains x.f.kind)=(pre.filter λx=>kk.contains x.f.kind)++(if kk.contains x.f.kind then[x]else[]):=by
    grind
   generalize(pre.filter λx=>kk.contains x.f.kind)=l at*;refine xA ?_;intro z;refine qO mM hr (xS ?_);refine jJ BS (Zl G a3 n3 c3 kk x.f.kind h3 bw) U U U  ?_;refine xB ?_ ?_<;>intro h
   ·rw[ao h]at hfx;refine nK tK.cs 365 16 362 b5 λa6 c6=>?_;refine xZ ?_;intro b7;refine fH (x) U U U U bw U cE cE cE cE cE bw λa8 c8=>xS ?_;refine vk tK.cs 365 16 362 b5 (l++[x]) U ?_;rw[hfx];exact lT mM
   ·rw[aj bQ,bj]at hfx;refine xS ?_;rw[hfx];exact lT mM
  ·intro D;dsimp only[bh,bk,bj];rw[<-Qv];refine nK tK.cs 365 16 362 b5 λa6 c6=>xS ?_;exact Tr
 ·refine xB ?_ ?_<;>intro h
  ·have hk:ks=[]:=Ca;subst hk;refine xZ ?_;intro b7;refine jx b7 (λx:ae=>[.int .i64 x]) [1,2] U (λ_=>rfl) ?_;exact X.less (fin ⟨(aN ⟨b7,0,aO⟩,2,2),U,by grind⟩) (Sub.of U) (by dsimp only;rw[show rY []=[1,2]from rfl];exact bA)
  ·have hk:ks≠[]:=bQ;refine xS ?_;exact X.less (fin ⟨(a2,n2,c2),by grind,vQ⟩) (Sub.of U) (by dsimp only;rw[rY,aj hk];exact bA)
end
section
variable(l:Y tK)(b:Bs)(G:dA)(pb:ab)(f:nN)(out:Bs)(a:ah aX)(n c:ab)(xs:Bs)
structure Ext where
 dP:ai
 at_:ae
 len:ae
deriving DecidableEq
abbrev Ext.cs(x:Ext):Y aR:=[.bool x.dP,.int .i64 x.at_,.int .i64 x.len]
def nB(at_:ae)(l:Y Ext)(b50:ae):Y Ext:=if b50>at_ then l++[⟨aP,at_,b50 - at_⟩]else l
def lD(s:ae×Y Ext)(x:tK):ae×Y Ext:=(x.at_+x.size,nB s.1 s.2 x.at_++[⟨aQ,x.at_,x.size⟩])
def tV(l:Y tK):ae×Y Ext:=l.foldl lD (0,[])
def dL(b:Bs):Y Ext:=nB (tV (mG b)).1 (tV (mG b)).2 b.length
theorem uK(a:ae)(l:Y Ext)(t:ae):(nB a l t).length<=l.length+1:=by
 grind [nB]
theorem Vd(x:tK):tV (l++[x])=lD (tV l) x:=by simp[tV]
theorem I8:∀(l:Y tK) (s:ae×Y Ext),(l.foldl lD s).2.length<=s.2.length+2*l.length
 |[],s=>by simp
 |x::r,s=>by
  rw[eD];have h1:=I8 r (lD s x);have h2:=uK s.1 s.2 x.at_;have h3:(lD s x).2.length=(nB s.1 s.2 x.at_).length+1:=by simp[lD]
  rw[bL];omega
theorem AK:(tV l).2.length<=2*l.length:=by grind [I8,tV]
theorem FH(n:ae):∀(l:Y tK) (s:ae×Y Ext),(∀x∈l,0<=x.at_/\9<=x.size/\x.at_+x.size<=n)->0<=s.1->s.1<=n->0<=(l.foldl lD s).1/\(l.foldl lD s).1<=n
 |[],s,_,h1,h2=>⟨h1,h2⟩
 |x::r,s,h,h1,h2=>by
  rw[eD];have h3:=h x dW;exact FH n r _ (λy hy=>h y D9) (by show 0<=x.at_+x.size;omega) (by show x.at_+x.size<=n;omega)
theorem Ts(pa po:ab)(at_ b50:ae)(l:Y Ext)(h0:0<=at_)(h1:b50<=1000000000)(h2:at_<=1000000000)(hl:l.length<=3000000000):
 TR be G 368 #[.int .i64 b50,bu pa,bu po] [bx pa 3 [.int .i64 at_],mS Ext.cs 404 3 268 po l] (dC λv B=>v=.tuple #[]/\B=[bx pa 3 [.int .i64 at_],mS Ext.cs 404 3 268 po (nB at_ l b50)]):=by
 refine jy U λb O hb hG=>?_
 refine xB ?_ ?_<;>intro h
 ·rw[nB,ao bQ];have h:at_<b50:=bQ;refine nK Ext.cs 404 3 268 po λa1 c1=>?_;refine xZ ?_;intro b7;refine fH ((⟨aP,at_,b50 - at_⟩:Ext)) U U U U bw U cE cE cE cE cE bw λa8 c8=>xS ?_;refine vk Ext.cs 404 3 268 po (l++[⟨aP,at_,b50 - at_⟩]) U ?_;exact xF
 ·rw[nB,aj bQ];exact xF
theorem FI(hn:xs.length=n)(qn:n<=c)(hs:n<=1000000000):
 TR be G 266 #[.slice a n c] [dp RB 1 a xs] (dC (UZ Ext.cs 404 3 (dL xs))):=by
 refine dH U λb O hb hG=>?_
 have hlen:=nt xs
 have jv:=Vc xs
 refine xS ?_
 refine kq U U λb3=>?_
 refine C7 Ext.cs 404 3 b3 U  ?_
 refine xA ?_
 intro b4
 refine xA ?_
 intro b5
 refine cP (Qw G a n c) ?_
 rintro v B ⟨q,rfl,rfl⟩
 refine xD ?_
 refine rL hG hb (Qx G q a n c xs hn qn bw) U (λpre=>[bx b4 3 [.int .i64 (tV pre).1],mS Ext.cs 404 3 268 b3 (tV pre).2,bx b5 495 [.func (.func 368) #[] #[bu b4,bu b3]]]) [bx b4 3 [.int .i64 0],mS Ext.cs 404 3 268 b3 [],bx b5 495 [.func (.func 368) #[] #[bu b4,bu b3]]] U (λ_=>rfl) eK ?_ ?_
 ·intro b' β' l' r pre x post hx mM BS hr;have tJ:(tV pre).2.length<=2*n:=by
   have:=AK pre;rw[hx]at hlen;simp at hlen;omega
  have L0:=FH n pre (0,[]) (λy hy=>by rw[<-hn];exact jv y (by rw[hx];simp[hy])) dW dW;have hxm:=jv x (by rw[hx];simp);have hfx:=Vd pre x;change 0<=(tV pre).1/\(tV pre).1<=n at L0;generalize tV pre=s at*;obtain⟨at_,l⟩:=s;dsimp only[lD]at*;have hjl:=uK at_ l x.at_;refine xA ?_;intro z;refine qO mM hr (xS ?_);refine jd (fst:=[]) (us:=[.int .i64 x.at_]) (cap:=[bu b4,bu b3]) BS (Ts G b4 b3 at_ x.at_ l bw bw bw bw) U U U U bS.es ?_;rintro v B ⟨rfl,rfl⟩;dsimp only[bh,bk,bj];generalize nB at_ l x.at_=l2 at*;refine nK Ext.cs 404 3 268 b3 λa6 c6=>?_;refine xZ ?_;intro b7;refine fH ((⟨aQ,x.at_,x.size⟩:Ext)) U U U U FL U cE cE cE cE cE bw λa8 c8=>xS ?_;refine vk Ext.cs 404 3 268 b3 (l2++[⟨aQ,x.at_,x.size⟩]) U ?_;rw[hfx];exact lT mM
 ·intro D;dsimp only[bh,bk,bj];have tJ:=AK (mG xs);have L0:=FH n (mG xs) (0,[]) (λy hy=>by rw[<-hn];exact jv y hy) dW dW;change 0<=(tV (mG xs)).1/\(tV (mG xs)).1<=n at L0;have Qv:dL xs=nB (tV (mG xs)).1 (tV (mG xs)).2 xs.length:=U;generalize tV (mG xs)=s at*;obtain⟨at_,l⟩:=s;dsimp only at*;refine xS ?_;refine jd (fst:=[]) (us:=[.int .i64 n]) (cap:=[bu b4,bu b3]) hG (Ts G b4 b3 at_ n l bw bw bw bw) U U U U bS.es ?_;rintro v B ⟨rfl,rfl⟩;dsimp only[bh,bk,bj];rw[hn]at Qv;rw[<-Qv];refine nK Ext.cs 404 3 268 b3 λa6 c6=>xS ?_;exact Tr
theorem M9(s:Bs×ai)(h:(tA f s).2=aP):dD (tA f s).1=0:=by
 grind [tA]
theorem KV:(oR b).2=aP->dD (oR b).1=0:=by
 grind [oR,M9]
theorem tB(m:ae)(h:(cX b m).2.2=0):dD (cX b m).1=0:=by
 grind [cX,tU,KV]
instance aA6(x:ae):FJ be 413 [.int .i64 x] [] (.bool (x==1||x==2)):=⟨λG=>by
 refine dH U λb O hb hG=>?_;refine xT 5 ?_ ?_<;>intro h
 ·exact MX
 ·refine xS ?_;exact cT hb (.tmps U) ⟨by simp[mv,h],U⟩⟩
theorem oB(h:dD f=0):(oA f).length<=6100:=by
 grind [rX,j',fV,wq,oA,AI,Ey,AE]
theorem Dw(m:ab)(h:(cX b m).2.2=0):9<=(cX b m).2.1/\(m:ae)+(cX b m).2.1<=b.length:=yQ b m h
def XA{σ:Type}(st:σ->tK->σ×ai):ab->Bs->ab->σ->σ×ai
 |0,_,_,s=>(s,aP)
 |f+1,b,at_,s=>
  if b.length<=at_ then(s,aP)
  else if(cX b at_).2.2≠0 then(s,aQ)
  else if(st s ⟨(cX b at_).1,at_,(cX b at_).2.1⟩).2=aQ then((st s ⟨(cX b at_).1,at_,(cX b at_).2.1⟩).1,aQ)
  else XA st f b (at_+(cX b at_).2.1.toNat) (st s ⟨(cX b at_).1,at_,(cX b at_).2.1⟩).1
def iO{σ:Type}(st:σ->tK->σ×ai)(b:Bs)(s:σ):σ×ai:=XA st (b.length+1) b 0 s
theorem Na{σ:Type}(st:σ->tK->σ×ai)(S:σ->bG)(ok:ab->σ->Prop)(fe:ab)[CF be fe](cap:Y aR)(a:ah aX)(n c:ab)(xs:Bs)(s0:σ)(hn:xs.length=n)(qn:n<=c)(hs:n<=1099511627776)(h0:ok 0 s0)(hY:∀(at_:ab) (s:σ) (f:nN) (size:ae),9<=size->at_+size<=n->dD f=0->ok at_ s->
  TR be G fe (([.int .i64 at_,.int .i64 size,.agg f.cs.toArray]:Y aR)++cap).toArray [S s] (dC λv B=>v=.bool (st s ⟨f,at_,size⟩).2/\B=[S (st s ⟨f,at_,size⟩).1])/\((st s ⟨f,at_,size⟩).2=aP->ok (at_+size.toNat) (st s ⟨f,at_,size⟩).1)):
 TR be G 375 #[.slice a n c,.func (.func fe) #[] cap.toArray] [S s0,dp RB 1 a xs] (dC λv B=>v=.bool (iO st xs s0).2/\B=[S (iO st xs s0).1,dp RB 1 a xs]):=by
 refine bZ U λb O hb hG=>xS ?_
 refine X.loop (ι:={q:ab×σ // q.1<=n/\ok q.1 q.2/\∃f,n<q.1+f/\iO st xs s0=XA st f xs q.1 q.2}) (λq=>([(0,.slice a n c),(1,.func (.func fe) #[] cap.toArray),(5,.int .i64 q.1.1)],[S q.1.2,dp RB 1 a xs])) (λq=>n - q.1.1) ⟨(0,s0),bp _,h0,n+1,by dsimp only;omega,by rw[iO,hn]⟩ (Sub.of U) (bS.refl _) ?_
 rintro⟨⟨i,s⟩,hi,eI,f,hf,hE⟩ ih
 dsimp only at hi eI hf hE ih ⊢
 refine yB (i<n) (n<=i) ?_ ?_<;>intro gj
 ·obtain⟨f,rfl⟩:∃q,f=q+1:=by
   cases f<;>grind
  rw[XA,aj bw]at hE;refine xJ (rE G a n c xs i hn qn bw) ?_;have hd:=Dw xs i;have Zn:=tB xs i;generalize cX xs i=d at*;obtain⟨fr,sz,er⟩:=d;dsimp only[U']at hd Zn hE ⊢;refine xA ?_;intro b6;refine xT 22 ?_ ?_<;>intro h1
  ·rw[ao bQ]at hE;exact aW6
  ·have he0:er=0:=bQ;rw[aj bw]at hE;have hd:=hd he0;have hy:=hY i s fr sz hd.1 bw (Zn he0) eI;refine xS ?_;refine jd (fst:=[]) (us:=[.int .i64 i,.int .i64 sz,.agg fr.cs.toArray]) (cap:=cap) hG hy.1 U U U U bS.es ?_;rintro v B ⟨rfl,rfl⟩;dsimp only[bh,bk,bj];have hy2:=hy.2;generalize st s ⟨fr,i,sz⟩=r at*;obtain⟨s',ok'⟩:=r;dsimp only at hy2 hE ⊢;refine xS ?_;cases ok'
   ·rw[ao U]at hE;exact aW6
   ·rw[aj dW]at hE;refine xS ?_;rw[aj (show ¬sz<1 by omega)];refine xS ?_;exact X.less (ih ⟨(i+sz.toNat,s'),by omega,hy2 U,f,by omega,hE⟩ bQ) (s3_ U U (dI U fD)) bA
 ·have h0:iO st xs s0=(s,aP):=by
   rw[hE];cases f<;>grind [XA]
  refine xS ?_;exact cT hb (.tmps U) ⟨by rw[h0];rfl,by rw[h0]⟩
def pF(b:Bs)(p:Ptr):ai:=
 ((cX b p.at_).2.2==0)&&((cX b p.at_).1.kind==1||(cX b p.at_).1.kind==2)&&((cX b p.at_).2.1==p.len)&&((cX b p.at_).1.lW.fQ==p.fQ)&&((cX b p.at_).1.lW.kind==p.kind)&&((cX b p.at_).1.lW.key==p.key)
theorem Qy(p:Ptr)(hn:xs.length=n)(qn:n<=c)(hs:n<=1099511627776):
 TR be G 385 #[.slice a n c,.agg p.cs.toArray] [dp RB 1 a xs] (dX (.bool (pF xs p))):=by
 refine bZ U λb O hb hG=>?_
 have out:∀{N vs k H} (x:ai),pF xs p=x->lk vs 4=aN (.bool x)->X be b O aO (.it (.code .ret::k)) ⟨N,vs,[]⟩ H (dX (.bool (pF xs p))):=by
  intro N vs k H x he h1;exact cT hb (.tmp h1 .nil) ⟨by rw[he];rfl,U⟩
 refine xP ?_
 intro b3
 refine xJ (rE G a n c xs p.at_ hn qn bw) ?_
 have e0:pF xs p=(((cX xs p.at_).2.2==0)&&((cX xs p.at_).1.kind==1||(cX xs p.at_).1.kind==2)&&((cX xs p.at_).2.1==p.len)&&((cX xs p.at_).1.lW.fQ==p.fQ)&&((cX xs p.at_).1.lW.kind==p.kind)&&((cX xs p.at_).1.lW.key==p.key)):=U
 generalize cX xs p.at_=d at*
 obtain⟨fr,sz,er⟩:=d
 dsimp only[U']at e0 ⊢
 refine xA ?_
 intro b5
 refine xA ?_
 intro b8
 refine xT 21 ?_ ?_<;>intro h1
 ·refine xT 26 ?_ ?_<;>intro h2
  ·refine xT 32 ?_ ?_<;>intro h3
   ·refine xT 39 ?_ ?_<;>intro h4
    ·refine xT 46 ?_ ?_<;>intro h5
     ·have h4':fr.lW.fQ=p.fQ:=by grind [iX]
      refine xS ?_;exact out _ bQ U
     exact Zo
    ·have h4':¬fr.lW.fQ=p.fQ:=bQ;exact aW9
   exact Zo
  exact Zo
 ·exact aW9
def D'(out:Bs)(f:nN):Bs:=if dD f=0 then out++oA f else out
theorem Nb(f:nN):(D' out f).length<=out.length+6100:=by
 grind [D',oB]
theorem Zp(hl:out.length<=1000000000000):
 TR be G 411 #[.agg f.cs.toArray,bu pb] [vn 55 pb out] (dC λv B=>v=.bool (dD f==0)/\B=[vn 55 pb (D' out f)]):=by
 refine bZ U λb O hb hG=>?_
 refine xP ?_
 intro b2
 refine cP (Ce G f) ?_
 rintro v B (⟨h0,a4,c4,rfl,rfl⟩|⟨h0,rfl,rfl⟩)
 ·have hle:=oB f h0;rw[D',ao h0,h0];dsimp only[bh,bk,bj];generalize oA f=ys at*;refine xS ?_;refine S5 55 pb λa1 c1=>xS ?_;refine jz a4 U λh7=>?_;refine jA U U U U U bw λIg c11=>xS ?_;refine aR8 55 pb (out++ys) U ?_;exact xR
 ·rw[D',aj h0];refine xD ?_;refine S5 55 pb λa1 c1=>xS ?_;refine ku au RB 1 ?_;refine jA U U U U cE fD λIg c11=>?_;rw[bj];refine xS ?_;refine aR8 55 pb out U ?_;exact cT hb (.tmps U) ⟨by simp[mv],U⟩
def xu(x:tK):nN:=⟨3,Rec.zero,⟨x.f.lW.fQ,x.f.lW.kind,x.at_,x.size,x.f.lW.key⟩,⟨0,⟨0,0,0⟩⟩⟩
def qq(s:ab×Bs)(x:tK):(ab×Bs)×ai:=
 if(x.f.kind==1||x.f.kind==2)=aP then((s.1+1,D' s.2 (xu x)),dD (xu x)==0)else((s.1+1,s.2),aQ)
abbrev ofL(pc pp pb:ab)(s:ab×Bs):Y bG:=[bx pc 3 [.int .i64 s.1],bx pp 528 [.func (.func 411) #[] #[bu pb]],vn 55 pb s.2]
theorem bq1(pc pp pb:ab)(at_:ab)(size:ae)(f:nN)(s:ab×Bs)(h1:s.1<=1000000000)(h2:s.2.length<=1000000000000):
 TR be G 412 #[.int .i64 at_,.int .i64 size,.agg f.cs.toArray,bu pc,bu pp] [dZ (ofL pc pp pb s)] (dC λv B=>v=.bool (qq s ⟨f,at_,size⟩).2/\B=[dZ (ofL pc pp pb (qq s ⟨f,at_,size⟩).1)]):=by
 refine TR.go (us:=[_,_,_,_,_]) (bH U) λb O hb hG=>?_
 obtain⟨PE,out⟩:=s
 dsimp only at h1 h2 ⊢
 refine mc (ofL pc pp pb (PE,out)) ?_
 dsimp only[ofL]
 refine xD ?_
 refine xP ?_
 intro b7
 refine xA ?_
 intro b9
 have e0:qq (PE,out) ⟨f,at_,size⟩=if(f.kind==1||f.kind==2)=aP then((PE+1,D' out (xu ⟨f,at_,size⟩)),dD (xu ⟨f,at_,size⟩)==0)else((PE+1,out),aQ):=U
 refine xT 17 ?_ ?_<;>intro h
 ·rw[ao h]at e0;refine xS ?_;refine jd (fst:=[]) (us:=[.agg (xu ⟨f,at_,size⟩).cs.toArray]) (cap:=[bu pb]) hG (Zp G pb (xu ⟨f,at_,size⟩) out bw) U U U U bS.es ?_;rintro v B ⟨rfl,rfl⟩;refine xD ?_;exact aX0
 ·rw[aj (by simp[h])]at e0;refine xS ?_;exact aX0
theorem FN(s:ab×Bs)(x:tK)(h:s.2.length<=6100*s.1):(qq s x).1.2.length<=6100*(qq s x).1.1/\(qq s x).1.1=s.1+1:=by
 grind [qq,Nb]
def hintOf(b:Bs):Bs×ae:=
 if b.length>4194304 then([],100)
 else
  let w:=iO qq b (0,[])
  let ff:nN:=⟨4,Rec.zero,Ptr.zero,⟨w.1.1,⟨b.length,w.1.1,nZ [b]⟩⟩⟩
  if w.2=aP/\dD ff=0 then(D' w.1.2 ff,0)else([],100)
def Zq(p:Bs×ae)(v:aR)(B:Y bG):Prop:=(p.2=0/\∃a c,v=.tuple #[.slice a p.1.length c,.int .i64 0]/\B=[own 5 1 a p.1.length c (p.1.map gT)])\/(p.2≠0/\v=.tuple #[.slice aO 0 0,.int .i64 p.2]/\B=[])
theorem Cg{σ:Type}(st:σ->tK->σ×ai)(I:σ->Prop)(hI:∀s x,I s->I (st s x).1):∀(f:ab) (b:Bs) (m:ab) (s:σ),I s->I (XA st f b m s).1
 |0,_,_,s,h=>h
 |f+1,b,m,s,h=>by
  unfold XA;split
  ·exact h
  ·split
   ·exact h
   ·split
    ·grind
    ·exact Cg st I hI f b _ _ (hI _ _ h)
theorem FQ:∀(f:ab) (b:Bs) (m:ab) (s:ab×Bs),9*s.1<=m->m<=b.length->(XA qq f b m s).1.1<=b.length
 |0,_,_,s,h,h2=>by grind [XA]
 |f+1,b,m,s,h,h2=>by
  unfold XA
  split
  ·grind
  ·split
   ·grind
   ·rename_i h3 h4;have h5:=Dw b m bw;have h6:(qq s ⟨(cX b m).1,m,(cX b m).2.1⟩).1.1=s.1+1:=by unfold qq;split<;>rfl
    split
    ·rw[h6];omega
    ·exact FQ f b _ _ (by rw[h6];omega) bw
theorem KW(hn:xs.length=n)(qn:n<=c)(hs:n<=1000000000):
 TR be G 329 #[.slice a n c] [dp RB 1 a xs] (dC (Zq (hintOf xs))):=by
 refine dH U λb O hb hG=>?_
 refine yB (n>4194304) (n<=4194304) ?_ ?_<;>intro h1
 ·have e0:hintOf xs=([],100):=by grind [hintOf]
  exact aX1
 ·have e0:hintOf xs=if(iO qq xs (0,[])).2=aP/\dD ⟨4,Rec.zero,Ptr.zero,⟨(iO qq xs (0,[])).1.1,⟨n,(iO qq xs (0,[])).1.1,nZ [xs]⟩⟩⟩=0 then(D' (iO qq xs (0,[])).1.2 ⟨4,Rec.zero,Ptr.zero,⟨(iO qq xs (0,[])).1.1,⟨n,(iO qq xs (0,[])).1.1,nZ [xs]⟩⟩⟩,0)else([],100):=by
   grind [hintOf]
  refine xS ?_;refine kq U U λb4=>?_;refine bB2 b4 U  ?_;refine xA ?_;intro b5;refine xA ?_;intro b6;refine hU (ofL b6 b5 b4 (0,[])) ?_;refine cP (Na G qq (λs=>dZ (ofL b6 b5 b4 s)) (λm s=>9*s.1<=m/\s.2.length<=6100*s.1) 412 [bu b6,bu b5] a n c xs (0,[]) hn qn bw dW ?_) ?_
  ·intro at_ s f size zW L0 _ eI
   grind [bq1,FN]
  rintro v B ⟨rfl,rfl⟩;dsimp only[bh,bk,bj];have HY:(iO qq xs (0,[])).1.2.length<=6100*(iO qq xs (0,[])).1.1:=Cg qq (λs=>s.2.length<=6100*s.1) (λs x h=>(FN s x h).1) _ _ _ _ dW;have hwc:(iO qq xs (0,[])).1.1<=n:=by rw[<-hn];exact FQ _ _ _ _ dW dW
  generalize iO qq xs (0,[])=w at*;obtain⟨⟨PE,out⟩,Ve⟩:=w;dsimp only at HY hwc e0 ⊢;refine mc (ofL b6 b5 b4 (PE,out)) ?_;dsimp only[ofL];refine xD ?_;generalize hcr:nZ [xs]=cr at*;refine iK (ι:=ab) (λb8=>([(4,bu b4),(5,bu b5),(6,bu b6),(7,.bool Ve),(8,bu b8)],[bx b8 216 [.int .i64 n,.int .i64 PE,.int .u32 cr.toNat],bx b6 3 [.int .i64 PE],bx b5 528 [.func (.func 411) #[] #[bu b4]],vn 55 b4 out])) (λb8=>?_) (λK fin=>?_)
  ·dsimp only;refine xT 25 ?_ ?_<;>intro h2
   ·refine xS ?_;have e1:hintOf xs=([],100):=bQ;exact aX2
   ·have h2:Ve=aP:=bQ;subst h2;refine xS ?_;refine jd (fst:=[]) (us:=[.agg (⟨4,Rec.zero,Ptr.zero,⟨PE,⟨n,PE,cr⟩⟩⟩:nN).cs.toArray]) (cap:=[bu b4]) hG (Zp G b4 ⟨4,Rec.zero,Ptr.zero,⟨PE,⟨n,PE,cr⟩⟩⟩ out bw) U U U U bS.es ?_;rintro v B ⟨rfl,rfl⟩;dsimp only[bh,bk,bj];generalize(⟨4,Rec.zero,Ptr.zero,⟨PE,⟨n,PE,cr⟩⟩⟩:nN)=ff at*;refine yB (dD ff≠0) (dD ff=0) ?_ ?_<;>intro h3
    ·have e1:hintOf xs=([],100):=bQ;refine xS ?_;exact aX2
    ·have e1:hintOf xs=(D' out ff,0):=bQ;refine S5 55 b4 λa1 c1=>xS ?_;exact X.ret hb (.tmps U) ⟨_,.inl ⟨by rw[e1],a1,c1,by rw[e1];rfl,by rw[e1]⟩,bA⟩
  ·show X _ _ _ _ _ _ _ _;refine ph [0,1,2,3,6] [0] ?_;refine xL [0,1,2,3] ?_;refine xS ?_;refine eN U U U U U ?_ ?_
   ·refine xZ ?_;intro b20;refine eN U U U U U ?_ ?_
    ·refine Ki b20 hn qn ?_;refine xJ (Fv G _ 1 1 [xs] U bw fD) ?_;rw[hcr];dsimp only[UY];refine xS ?_;refine xL [6] ?_;refine xA ?_;intro b8;exact X.W (fin b8)
    ·refine xA ?_;intro b8;exact aX3
   ·refine xA ?_;intro b8;refine xZ ?_;intro b20;exact aX3
structure HZ where
 over:ai
 next:ae
 l:Y Ptr
 fin:U3
def tW(s:HZ)(x:tK):HZ×ai:=
 if s.over=aP then(s,aQ)
 else if x.f.kind=3/\x.f.ptr.at_=s.next then({s with next:=s.next+x.f.ptr.len,l:=s.l++[x.f.ptr]},aP)
 else if x.f.kind=4 then({s with fin:=x.f.fin,over:=aP},aP)
 else(s,aQ)
abbrev ldL(b9 b8 b6 b7:ab)(s:HZ):Y bG:=[bx b9 4 [.bool s.over],bx b8 3 [.int .i64 s.next],mS Ptr.cs 214 5 281 b6 s.l,bx b7 218 s.fin.cs]
theorem Zr(b9 b8 b6 b7:ab)(at_ size:ae)(f:nN)(s:HZ)(h1:0<=s.next/\s.next<=1000000000000000000)(h2:s.l.length<=1000000000)(hg:dD f=0):
 TR be G 376 #[.int .i64 at_,.int .i64 size,.agg f.cs.toArray,bu b9,bu b8,bu b6,bu b7] [dZ (ldL b9 b8 b6 b7 s)] (dC λv B=>v=.bool (tW s ⟨f,at_,size⟩).2/\B=[dZ (ldL b9 b8 b6 b7 (tW s ⟨f,at_,size⟩).1)]):=by
 refine TR.go (us:=[_,_,_,_,_,_,_]) (bH U) λb O hb hG=>?_
 have Zn:=j' hg
 obtain⟨_,_,_,_,l6,vo,hp3,hp4,_⟩:=Zn
 obtain⟨over,next,l,fin⟩:=s
 dsimp only at h1 h2 ⊢
 refine mc (ldL b9 b8 b6 b7 ⟨over,next,l,fin⟩) ?_
 dsimp only[ldL]
 refine xD ?_
 refine xP ?_
 intro bf
 cases over
 ·refine xS ?_;have e0:tW ⟨aQ,next,l,fin⟩ ⟨f,at_,size⟩=if f.kind=3/\f.ptr.at_=next then(⟨aQ,next+f.ptr.len,l++[f.ptr],fin⟩,aP)else if f.kind=4 then(⟨aP,next,l,f.fin⟩,aP)else(⟨aQ,next,l,fin⟩,aQ):=U;refine xT 17 ?_ ?_<;>intro h3
  ·refine xB ?_ ?_<;>intro h4
   ·rw[ao ⟨by grind,by grind⟩]at e0;refine xS ?_;refine nK Ptr.cs 214 5 281 b6 λa6 c6=>?_;refine xZ ?_;intro b70;refine fH (f.ptr) U U U U bw U cE cE cE cE cE bw λa8 c8=>xS ?_;refine vk Ptr.cs 214 5 281 b6 (l++[f.ptr]) U ?_;exact bU0
   exact bG9
  exact bG9
 ·have e0:tW ⟨aP,next,l,fin⟩ ⟨f,at_,size⟩=(⟨aP,next,l,fin⟩,aQ):=U;exact bU1
abbrev HZ.zero:HZ:=⟨aQ,0,[],⟨0,⟨0,0,0⟩⟩⟩
def iF(b:Bs)(p:Prn):Y Ptr×ae:=
 let w:=iO tW b HZ.zero
 if w.2=aQ\/w.1.over=aQ\/w.1.fin.count≠w.1.l.length\/w.1.fin.print.cG≠w.1.l.length\/w.1.fin.print.bytes≠w.1.next then([],4)
 else if w.1.fin.print≠p then([],3)else(w.1.l,1)
def aX6(p:Y Ptr×ae)(v:aR)(B:Y bG):Prop:=(p.2=1/\∃a c,v=.tuple #[.slice a p.1.length c,.int .i64 1]/\B=[own 214 5 a p.1.length c (p.1.flatMap Ptr.cs)])\/(p.2≠1/\v=.tuple #[.slice aO 0 0,.int .i64 p.2]/\B=[])
theorem Ch(p:Prn)(hn:xs.length=n)(qn:n<=c)(hs:n<=1000000000):
 TR be G 280 #[.slice a n c,.agg p.cs.toArray] [dp RB 1 a xs] (dC (aX6 (iF xs p))):=by
 refine bZ U λb O hb hG=>?_
 refine xP ?_
 intro b3
 refine kq U U λb6=>?_
 refine C7 Ptr.cs 214 5 b6 U  ?_
 refine xA ?_
 intro b7
 refine xA ?_
 intro b8
 refine xA ?_
 intro b9
 refine Km (ldL b9 b8 b6 b7 HZ.zero) [bx b9 4 [.bool aQ],bx b8 3 [.int .i64 0],mS Ptr.cs 214 5 281 b6 [],bx b7 218 [.int .i64 0,.int .i64 0,.int .i64 0,.int .u32 0]] U ?_
 refine cP (Na G tW (λs=>dZ (ldL b9 b8 b6 b7 s)) (λm s=>0<=s.next/\s.next<=4194304*m/\s.l.length<=m) 376 [bu b9,bu b8,bu b6,bu b7] a n c xs HZ.zero hn qn bw dW ?_) ?_
 ·intro at_ s f size zW L0 hg eI
  refine⟨Zr G b9 b8 b6 b7 at_ size f s bw bw hg,λ_=>?_⟩
  have Zn:=j' hg
  obtain⟨_,_,_,_,l6,vo,hp3,hp4,_⟩:=Zn
  grind [tW]
 rintro v B ⟨rfl,rfl⟩
 dsimp only[bh,bk,bj]
 have e0:iF xs p=if(iO tW xs HZ.zero).2=aQ\/(iO tW xs HZ.zero).1.over=aQ\/(iO tW xs HZ.zero).1.fin.count≠(iO tW xs HZ.zero).1.l.length\/(iO tW xs HZ.zero).1.fin.print.cG≠(iO tW xs HZ.zero).1.l.length\/(iO tW xs HZ.zero).1.fin.print.bytes≠(iO tW xs HZ.zero).1.next then([],4)
  else if(iO tW xs HZ.zero).1.fin.print≠p then([],3)else((iO tW xs HZ.zero).1.l,1):=U
 generalize iO tW xs HZ.zero=w at*
 obtain⟨⟨over,next,l,fin⟩,Ve⟩:=w
 dsimp only at e0 ⊢
 refine mc (ldL b9 b8 b6 b7 ⟨over,next,l,fin⟩) ?_
 dsimp only[ldL]
 dsimp only[bh,bk,bj]
 have no4:∀{N vs k H},iF xs p=([],4)->lk vs 4=aN (.slice aO 0 0)->lk vs 5=aN (.int .i64 4)->X be b O aO (.it (.code .ret::k)) ⟨N,vs,[]⟩ H (dC (aX6 (iF xs p))):=by
  intro N vs k H he h1 h2;exact X.ret hb (.tmp h1 (.tmp h2 .nil)) ⟨_,.inr ⟨by grind,by rw[he];rfl,U⟩,bS.nil _⟩
 refine nK Ptr.cs 214 5 281 b6 λa6 c6=>?_
 refine xT 17 ?_ ?_<;>intro h1
 ·rw[ao (.inl bQ)]at e0;exact Nc
 ·have z1:Ve=aP:=bQ;refine xT 21 ?_ ?_<;>intro h2
  ·rw[ao (.inr (.inl bQ))]at e0;exact Nc
  ·have z2:over=aP:=bQ;refine xT 28 ?_ ?_<;>intro h3
   ·rw[ao (.inr (.inr (.inl bQ)))]at e0;exact Nc
   ·have z3:fin.count=l.length:=bQ;refine xT 36 ?_ ?_<;>intro h4
    ·rw[ao (.inr (.inr (.inr (.inl bQ))))]at e0;exact Nc
    ·have z4:fin.print.cG=l.length:=bQ;refine xB ?_ ?_<;>intro h5
     ·rw[ao (.inr (.inr (.inr (.inr bQ))))]at e0;exact Nc
     ·have z5:fin.print.bytes=next:=bQ;rw[aj bQ]at e0;refine xB ?_ ?_<;>intro h6
      ·have z6:fin.print≠p:=bQ;rw[ao z6]at e0;exact aX1
      ·have z6:fin.print=p:=by
        obtain⟨q1,q2,q3⟩:=p
        obtain⟨_,⟨r1,r2,r3⟩⟩:=fin
        grind [fk]
       rw[aj (by simp[z6])]at e0;refine xS ?_;exact X.ret hb (.tmps U) ⟨_,.inl ⟨by rw[e0],a6,c6,by rw[e0];rfl,by rw[e0]⟩,bA⟩
def eO(s:Bs):ai:=decide (1<=s.length)&&decide (s.length<=60)
instance by8(s:Bs):FJ be 23 [bn s] [] (.bool (eO s)):=⟨λG=>by
 refine dH U λb O hb hG=>?_;refine xT 6 ?_ ?_<;>intro h
 ·exact aX7
 ·have h1:s=[]:=by simp at h;cases s with|nil=>rfl|cons _ _=>grind
  subst h1;refine xS ?_;exact cT hb (.tmps U) ⟨U,U⟩⟩
theorem bU2(x:ab)(h:0<x):decide (((x - 1:ab):ae)=0)=(x==1):=by
 grind
structure DH where
 cap:ab
 used:ab
 dq:ae
 iu:ab
 fK:ab
 done:ai
 down:ai
abbrev DH.cs(M:ab)(h:DH):Y aR:=[.int .i64 h.cap,.int .i64 h.used,.map (aN M),.int .i64 h.dq,.int .i64 h.iu,.int .i64 h.fK,.bool h.done,.bool h.down]
structure cN where
 data:Bs
 last:ab
deriving DecidableEq
theorem Zs(D M:ab)(h:DH)(hb':h.iu<=9223372036854775807):
 TR be G 296 #[.pointer (aN ⟨D,4,aO⟩)] [bx D 74 (h.cs M)] (dC λv B=>v=.bool (h.iu==1)/\B=[bx D 74 (DH.cs M {h with iu:=h.iu - 1})]):=by
 refine dH U λb O hb hG=>?_
 obtain⟨cap,used,dq,fa,ba,dn,dw⟩:=h
 dsimp only[DH.cs]at hb' ⊢
 refine yB (0<fa) (fa=0) ?_ ?_<;>intro h1
 ·refine xS ?_;rw[show((fa:ae) - 1)=((fa - 1:ab):ae)from by omega];exact aX8
 ·subst h1;exact xR
theorem Zt(D M:ab)(h:DH)(hb':h.fK<=9223372036854775807):
 TR be G 296 #[.pointer (aN ⟨D,5,aO⟩)] [bx D 74 (h.cs M)] (dC λv B=>v=.bool (h.fK==1)/\B=[bx D 74 (DH.cs M {h with fK:=h.fK - 1})]):=by
 refine dH U λb O hb hG=>?_
 obtain⟨cap,used,dq,fa,ba,dn,dw⟩:=h
 dsimp only[DH.cs]at hb' ⊢
 refine yB (0<ba) (ba=0) ?_ ?_<;>intro h1
 ·refine xS ?_;rw[show((ba:ae) - 1)=((ba - 1:ab):ae)from by omega];exact aX8
 ·subst h1;exact xR
end
end Go.Proofs
