/- A part of the proof of LabLines. -/
import Derived.Test.YtcicblljnenhoaaGreatDoorProg
import Derived.Test.YtcicblljnenhoaaGreatDoorQA
open Array renaming getElem?_eq_some_iff->dT,getElem?_modify->eF,getElem?_toList->cZ
open Bool renaming false_and->ab6,false_eq_true->bY
open Go.Instr renaming checkKey->gv,loadAt->iO,sliceBounds->gl,sureAddr->eM
open Int renaming toNat_natCast->fG
open Go.IntKind renaming bits->gy,i64->dV,signed->iW,u32->dK,u64->cN,u8->cC,wrap->ic
open Go.Lib renaming compareBytes->cI,countByte->bP,indexByte->cE
open List renaming Perm.cons->fS,Perm.refl->fR,Perm.swap->eu,all_eq_true->ef,append_assoc->bT,append_nil->ah,cons_append->ae,drop_eq_getElem_cons->aP,drop_of_length_le->bc,drop_zero->fm,ext_getElem?->dP,findIdx?_eq_some_iff_getElem->bA,flatMap_cons->eQ,foldl_cons->cY,getElem?_eq_getElem->aV,getElem?_map->dO,getElem_cons_succ->dJ,getElem_map->ft,getElem_mem->aB,length->dq,length_append->aG,length_cons->ax,length_map->aA,length_nil->aR,length_pos_iff->fy,length_set->gB,length_take->cB,map_append->cq,map_congr_left->bQ,map_cons->aK,map_map->cz,map_nil->ie,map_set->eZ,mem_append->cM,mem_cons->bK,mem_map->bj,mem_singleton->bD,nil_append->ai,nodup_append->eP,nodup_cons->gA,perm_append_comm->cG,perm_middle->ee,replicate->bI,size_toArray->dC,sum_cons->eC,take_add_one->aY,take_append_drop->cP,take_length->bh,take_of_length_le->aD,take_succ_eq_append_getElem->dd,take_zero->ik,toArray->cU
open Nat renaming add_mul->fP,beq->dB,blt->aH,eq_of_beq_eq_true->eG,le_add_right->aT,le_of_ble_eq_true->aI,le_refl->ar,le_trans->aj,mul_le_mul_right->cX,reduceAdd->fq,zero_add->aQ,zero_le->al
open Go.Op renaming equalIn->fC
open Option renaming getD_some->bX,map_eq_some_iff->bk,map_some->bH,some.injEq->fF
open Go.Program renaming fieldsOf->dL
open Go.Result renaming andThen_ok->aC
open Go.Sem renaming run->fo,run_bind->aU,run_pure->bN
open Go.Proofs.Tryz renaming prog->ab,underlying139->fg,underlying3->ed,underlying4->fY,underlying87->eO,underlying9->cO
open UInt32 renaming ofNat->gz,toNat_inj->dM
open UInt64 renaming ofNat->fE,toNat_inj->gL
open UInt8 renaming ofNat->cu,toNat_inj->aa2
open Go.Value renaming bool->jZ,int->eL
open Go.World renaming cell?->gj
set_option linter.all false
set_option maxHeartbeats 4000000
namespace Go.Sl
variable{β:bS}{Hs:List az}{b:Frame}{R:Ending->List az->Prop}{k:Kt}{N d ty:Nat}{ds:List Deferred}{ops:Array Oper}{pos:String}{af:Array Edge}{g:Option (Nat×Bool)}{E:Env}{cc:Option (Array Oper×List Oper)}{w:World}{G:bZ}{α:Type}
section
variable{F rs A Jc:List az}{a:Option Addr}{xs cap cs:List Value}{x i:Operand}{K:Type}{M:List (List UInt8×Value)}{P:Program}{f:FuncId}{bl c t sz e n r kt et f0:Nat}{zv:Value}{ps:List Nat}{bD4:Code}(y:List UInt8)(L:List az)
def lE{α:Type}(bo:α->List Value)(e sz ty:Nat)(b:Nat)(l:List α):az:=ex λp:Option Addr×Nat=>[bx b ty [.slice p.1 l.length p.2],own e sz p.1 l.length p.2 (l.flatMap bo)]
def Rl{α:Type}(bo:α->List Value)(e sz:Nat)(l:List α)(v:Value)(B:List az):Prop:=∃a c,v=.slice a l.length c/\B=[own e sz a l.length c (l.flatMap bo)]
theorem UN{α:Type}(bo:α->List Value)(e sz ty:Nat)(b:Nat)(F:List az):VS (bx b ty [.slice none 0 0]::F) (lE bo e sz ty b []::F):=λβ w hs=>by
 have h:=iZ (e:=e) (sz:=sz) (Hs:=bx b ty [.slice none 0 0]::F) hs;refine Sat.cd h ?_;refine(cQ _ _ _).trans ?_;exact gU (ι:=Option Addr×Nat) (f:=λp=>[bx b ty [.slice p.1 ([]:List α).length p.2],own e sz p.1 ([]:List α).length p.2 (([]:List α).flatMap bo)]) (none,0) F
section
variable{P:Program}{vs:List (Nat×Value)}{rest:List Oper}
theorem A7{α:Type}(bo:α->List Value)(e sz:Nat)(bl:Nat){ty:Nat}{cc:Option (Array Oper×List Oper)}{E:Env}[hf:FB Hs bl ty cs rs](sD:cs=[.slice none 0 0])(h:X P b β cc k E (lE bo e sz ty bl []::rs) R):X P b β cc k E Hs R:=by
 subst sD
 exact X.cd hf.out (wh (UN bo e sz ty bl rs) h)
theorem mh{α:Type}(bo:α->List Value)(e sz ty bl:Nat){l:List α}{cc:Option (Array Oper×List Oper)}{E:Env}[hf:FK Hs (lE bo e sz ty) bl l rs](h:∀a c,X P b β cc k E (bx bl ty [.slice a l.length c]::own e sz a l.length c (l.flatMap bo)::rs) R):X P b β cc k E Hs R:=
 jo λ_ hs=>let⟨i,hi⟩:=iX (hs.cd hf.out);⟨_,hi,h i.1 i.2⟩
theorem tD{α:Type}(bo:α->List Value)(e sz ty bl:Nat)(l:List α){cc:Option (Array Oper×List Oper)}{E:Env}[hf:FB Hs bl ty cs rs](sD:cs=[.slice a l.length c])[ho:FP rs (own e sz a l.length c (l.flatMap bo)) Jc](h:X P b β cc k E (lE bo e sz ty bl l::Jc) R):X P b β cc k E Hs R:=by
 subst sD
 exact X.cd ((hf.out.trans (aN.cons _ ho.out)).trans (gU (f:=λp:Option Addr×Nat=>[bx bl ty [.slice p.1 l.length p.2],own e sz p.1 l.length p.2 (l.flatMap bo)]) (a,c) Jc)) h
theorem eD[hk:Kt.nU k]{α:Type}{bo:α->List Value}{l:List α}(x1:α){Bg c2 bt:Nat}{y:Operand}{zs:List Value}[ht:px P t e][hz:iI P e sz][T':yl P e Bg][M7:TZ P e zs](hw:aJ ops vs ⟨some d,.call ⟨.builtin .append,#[x,y],#[t,t]⟩,ty,pos,af,g⟩=some true)(hn:aH d N=true)(hx:eo vs x=some (.slice a n c))(hy:eo vs y=some (.slice (some ⟨bl,0,none⟩) 1 c2))[ho:FO Hs a e sz n c xs rs][hs:FB rs bl bt cs Jc](Vr:n=l.length)(HZ:xs=l.flatMap bo)(sD:cs=bo x1)(BT:dB zs.length sz=true)(hl:dB cs.length (1*sz)=true)(h1:mB cs=true)(Fg:Nat.ble 1 Bg=true)(hb:(l.length+1)*Bg<=140737488355328)(h:∀a' c',X P b β (some (ops,rest)) k ⟨N,(d,.slice a' (l++[x1]).length c')::vs,ds⟩ (own e sz a' (l++[x1]).length c' ((l++[x1]).flatMap bo)::Jc) R):
 X P b β (some (ops,⟨some d,.call ⟨.builtin .append,#[x,y],#[t,t]⟩,ty,pos,af,g⟩::rest)) k ⟨N,vs,ds⟩ Hs R:=by
 subst Vr HZ sD
 refine sA hw hn hx hy BT hl h1 Fg hb λa' c'=>?_
 have:=h a' c'
 grind
end
def tI(ty:Nat)(b:Nat)(l:List UInt8):az:=ex λp:Option Addr×Nat=>[bx b ty [.slice p.1 l.length p.2],own 5 1 p.1 l.length p.2 (l.map fO)]
section
variable{P:Program}{vs:List (Nat×Value)}{rest:List Oper}
theorem Uq(ty:Nat)(b:Nat)(F:List az):VS (bx b ty [.slice none 0 0]::F) (tI ty b []::F):=λβ w hs=>by
 have h:=iZ (e:=5) (sz:=1) (Hs:=bx b ty [.slice none 0 0]::F) hs;refine Sat.cd h ?_;refine(cQ _ _ _).trans ?_;exact gU (ι:=Option Addr×Nat) (f:=λp=>[bx b ty [.slice p.1 ([]:List UInt8).length p.2],own 5 1 p.1 ([]:List UInt8).length p.2 (([]:List UInt8).map fO)]) (none,0) F
theorem bd0(bl:Nat){ty:Nat}[hf:FB Hs bl ty cs rs](sD:cs=[.slice none 0 0])(h:X P b β cc k E (tI ty bl []::rs) R):X P b β cc k E Hs R:=by
 subst sD
 exact X.cd hf.out (wh (Uq ty bl rs) h)
theorem Ps(ty bl:Nat){l:List UInt8}[hf:FK Hs (tI ty) bl l rs](h:∀a c,X P b β cc k E (bx bl ty [.slice a l.length c]::own 5 1 a l.length c (l.map fO)::rs) R):X P b β cc k E Hs R:=
 jo λ_ hs=>let⟨i,hi⟩:=iX (hs.cd hf.out);⟨_,hi,h i.1 i.2⟩
theorem av1(ty bl:Nat)(l:List UInt8)[hf:FB Hs bl ty cs rs](sD:cs=[.slice a l.length c])[ho:FP rs (own 5 1 a l.length c (l.map fO)) Jc](h:X P b β cc k E (tI ty bl l::Jc) R):X P b β cc k E Hs R:=by
 subst sD
 exact X.cd ((hf.out.trans (aN.cons _ ho.out)).trans (gU (f:=λp:Option Addr×Nat=>[bx bl ty [.slice p.1 l.length p.2],own 5 1 p.1 l.length p.2 (l.map fO)]) (a,c) Jc)) h
theorem kZ[hf:FP Hs (cV L) rs](h:X P b β cc k E (L++rs) R):X P b β cc k E Hs R:=
 X.cd (hf.out.trans (gG L rs)) h
theorem jc[hf:ES Hs L rs](h:X P b β cc k E (cV L::rs) R):X P b β cc k E Hs R:=
 X.cd (hf.out.trans (gp L rs)) h
theorem ML(L':List az)(hL:L'=L)[hf:ES Hs L' rs](h:X P b β cc k E (cV L::rs) R):X P b β cc k E Hs R:=by
 subst hL;exact jc L' h
theorem jl(α:Type)(Re:Rp α)(sz:Nat)(h:X P b β cc k E (bV Re sz none ([]:List α)::Hs) R):X P b β cc k E Hs R:=
 X.cd (Hs':=bV Re sz none ([]:List α)::Hs) (λ_ o h=>⟨fL,o,cR _,cJ _,.refl _,λ_ _=>.inl U,h⟩) h
end
def kv(e:MapEntry):Value×Value:=(e.key,e.val)
theorem Bm:∀(l:List MapEntry) (i:Nat) (h:i<l.length),(l.map (·.born)).Nodup->l.filter (λe=> !(e.born==l[i].born))=l.eraseIdx i
 |[],i,h,_=>by cases h
 |x::r,0,h,hn=>by
  simp_all
 |x::r,i+1,h,hn=>by
  have hl:i<r.length:=BU;simp only[aK,gA,bj,not_exists,not_and]at hn;simp only[dJ,List.eraseIdx_cons_succ,List.filter_cons];have me:¬x.born=r[i].born:=λhh=>hn.1 r[i] (aB hl) hh.symm;simp only[beq_iff_eq,me,Bool.not_false,if_true,beq_eq_false_iff_ne.2 me];rw[Bm r i hl hn.2]
structure Nh where
 es:Array MapEntry
 mX:Nat
 seen:Array Nat
 c0:Nat
 since:Nat
def JR{K:Type}(bo:K->Value)(M S:List (K×Value))(ko:Option (K×Value))(i:Nh):Prop:=
 i.es.toList.map kv=M.map (λp=>(bo p.1,p.2))/\(i.es.toList.map (·.born)).Nodup/\(∀e∈i.es.toList,e.born<i.since)/\i.since<=i.c0/\i.since<=i.mX/\
 (leftOf i.es i.seen).toList.map kv=S.map (λp=>(bo p.1,p.2))/\
 (∀p,ko=some p->i.c0=i.mX/\∃e∈i.es.toList,∃s0:Array Nat,i.seen=s0.push e.born/\kv e=(bo p.1,p.2))
def FF{K:Type}(bo:K->Value)(r bm:Nat)(M S:List (K×Value))(ko:Option (K×Value)):az:=
 ex λi:Nh=>[pu (JR bo M S ko i),pt r (.mapIter (some bm) i.since i.seen i.c0),pt bm (.map i.es i.mX)]
class FRg(Hs:List az)(r:Nat){K:outParam Type}(bo:outParam (K->Value))(bm:outParam Nat)(M S:outParam (List (K×Value)))(ko:outParam (Option (K×Value)))(rest:outParam (List az)):Prop where out:aN Hs (FF bo r bm M S ko::rest)
instance FRg.here{K:Type}(bo:K->Value)(r bm:Nat)(M S:List (K×Value))(ko:Option (K×Value))(Hs:List az):FRg (FF bo r bm M S ko::Hs) r bo bm M S ko Hs:=⟨aN.refl _⟩
instance(priority:=low) FRg.there(p:az)(Hs:List az)(r:Nat){K:Type}(bo:K->Value)(bm:Nat)(M S:List (K×Value))(ko:Option (K×Value))(rest:List az)[h:FRg Hs r bo bm M S ko rest]:FRg (p::Hs) r bo bm M S ko (p::rest):=
 ⟨(aN.cons p h.out).trans (cQ _ _ _)⟩
theorem JS(es:Array MapEntry)(seen:Array Nat)(n:Nat):(leftOf es (seen.push n)).toList=(leftOf es seen).toList.filter (λe=> !(e.born==n)):=by
 grind [leftOf,List.filter_filter,List.filter_congr]
section
variable{P:Program}{vs:List (Nat×Value)}{rest:List Oper}
theorem vo{bo:K->Value}{bm:Nat}{M S:List (K×Value)}{ko:Option (K×Value)}{w:World}(i:Nh)(hp:JR bo M S ko i)(h:Sat β (Sl.pt r (.mapIter (some bm) i.since i.seen i.c0)::Sl.pt bm (.map i.es i.mX)::F) w):Sat β (FF bo r bm M S ko::F) w:=
 (h.cd (dY hp _)).cd (gU (f:=λi:Nh=>[pu (JR bo M S ko i),Sl.pt r (.mapIter (some bm) i.since i.seen i.c0),Sl.pt bm (.map i.es i.mX)]) i F)
theorem yi{bo:K->Value}{bm:Nat}{M S:List (K×Value)}{ko:Option (K×Value)}{w:World}(h:Sat β (FF bo r bm M S ko::F) w):
 ∃i:Nh,JR bo M S ko i/\Sat β (Sl.pt r (.mapIter (some bm) i.since i.seen i.c0)::Sl.pt bm (.map i.es i.mX)::F) w:=by
 obtain⟨i,hi⟩:=iX h
 grind [ln]
theorem rh[hk:Kt.nU k]{bo:K->Value}{M:List (K×Value)}[ht:xy P t kt et][hf:FM Hs bl bo M F](hw:aJ ops vs ⟨some d,.range t x,ty,pos,af,g⟩=some true)(hn:aH d N=true)(hx:eo vs x=some (.map (some bl)))(h:∀r,X P b β (some (ops,rest)) k ⟨N,(d,.pointer (some ⟨r,0,none⟩))::vs,ds⟩ (FF bo r bl M M none::F) R):
 X P b β (some (ops,⟨some d,.range t x,ty,pos,af,g⟩::rest)) k ⟨N,vs,ds⟩ Hs R:=
 ly (v:=λr=>.pointer (some ⟨r,0,none⟩)) (Hs':=λr=>FF bo r bl M M none::F) U hn hw (λa w he hs=>by
  have e1:=aO he hx;obtain⟨o,⟨es,mX,rfl,h1,h2,h3⟩,ug⟩:=Sat.map (hs.cd hf.out);have hb:=dS ug;refine⟨w.heap.size,w.alloc (.mapIter (some bl) mX #[] mX),?_,vo ⟨es,mX,#[],mX,mX⟩ ⟨h1,h2,h3,ar _,ar _,?_,λp hp=>by cases hp⟩ (Sat.jP ug _)⟩
  ·simp[execOp,e1,run_range_map w t kt et bl es mX ht.out hb]
  ·rw[<-h1];unfold leftOf;simp only[Array.toList_filter];rw[List.filter_eq_self.2 nH];rfl) h
theorem wk[hk:Kt.nU k]{bo:K->Value}{M S:List (K×Value)}{ko:Option (K×Value)}[hf:FRg Hs r bo bl M S ko F](hw:aJ ops vs ⟨some d,.next x false,ty,pos,af,g⟩=some true)(hn:aH d N=true)(hx:eo vs x=some (.pointer (some ⟨r,0,none⟩)))(h0:S=[]->X P b β (some (ops,rest)) k ⟨N,(d,.tuple #[.bool false])::vs,ds⟩ (FF bo r bl M [] none::F) R)(h1:∀(i:Nat) (hi:i<S.length),X P b β (some (ops,rest)) k ⟨N,(d,.tuple #[.bool true,bo S[i].1,S[i].2])::vs,ds⟩ (FF bo r bl M (S.eraseIdx i) (some S[i])::F) R):
 X P b β (some (ops,⟨some d,.next x false,ty,pos,af,g⟩::rest)) k ⟨N,vs,ds⟩ Hs R:=
 ly (ι:=Option (Fin S.length)) (v:=λq=>match q with|none=>.tuple #[.bool false]|some i=>.tuple #[.bool true,bo S[i].1,S[i].2])
  (Hs':=λq=>match q with|none=>pu (S=[])::FF bo r bl M [] none::F|some i=>FF bo r bl M (S.eraseIdx i) (some S[i])::F) U hn hw (λa w he hs=>by
  have e1:=aO he hx
  obtain⟨i,⟨p1,p2,p3,p4,p5,p6,p7⟩,ug⟩:=yi (hs.cd hf.out)
  have hr:=dS ug
  have hb:=dS (ug.cd (cQ _ _ _))
  have tH:((leftOf i.es i.seen).toList.map (·.born)).Nodup:=by
   grind [leftOf]
  rcases run_next_at (P:=P) w ty r bl i.since i.c0 i.seen i.es i.mX hr hb p3 p4 with⟨h2,h3⟩|⟨e,he2,w1,Rn,h3⟩
  ·have hS:S=[]:=by
    simp_all
   refine⟨none,w,by simp[execOp,e1,h3],?_⟩;refine(vo (M:=M) (S:=[]) (bo:=bo) i ⟨p1,p2,p3,p4,p5,by rw[p6,hS],λp hp=>by cases hp⟩ ug).cd (dY hS _)
  ·obtain⟨j,hj,rfl⟩:=List.getElem_of_mem he2;have hlen:(leftOf i.es i.seen).toList.length=S.length:=by have:=congrArg dq p6;grind
   have hjS:j<S.length:=av;have hkv:kv ((leftOf i.es i.seen).toList[j])=(bo S[j].1,S[j].2):=by
    have h9:((leftOf i.es i.seen).toList.map kv)[j]' bE=(S.map λp=>(bo p.1,p.2))[j]' bE:=bE
    grind
   have h4:(execOp a.eval ⟨some d,.next x false,ty,pos,af,g⟩).run P w=.ok (.value (.tuple #[.bool true,bo S[j].1,S[j].2])) (ChangeMaps.setBlock w1 r (.mapIter (some bl) i.since (i.seen.push ((leftOf i.es i.seen).toList[j]).born) i.mX)):=by
    have hkv':=hkv;simp only[kv,Prod.mk.injEq]at hkv';rw[hkv'.1,hkv'.2]at h3;simp[execOp,e1,h3]
   refine⟨some ⟨j,hjS⟩,_,h4,?_⟩
   ·have hs3:Sat β (Sl.pt r (.mapIter (some bl) i.since i.seen i.c0)::Sl.pt bl (.map i.es i.mX)::F) w1:=by rcases Rn with rfl|rfl;exact ug;exact ug.drew
    refine vo ⟨i.es,i.mX,i.seen.push ((leftOf i.es i.seen).toList[j]).born,i.mX,i.since⟩ ⟨p1,p2,p3,p5,p5,?_,λp hp=>⟨U,(leftOf i.es i.seen).toList[j],?_,i.seen,U,?_⟩⟩ (Sat.setObj hs3)
    ·rw[JS,Bm _ j hj tH,map_eraseIdx,p6,<-map_eraseIdx]
    all_goals grind [leftOf]) (λq=>by
  cases q with
  |none=>exact lj h0
  |some i=>exact h1 i.1 i.2)
theorem zO{bo:K->Value}{M S:List (K×Value)}{p:K×Value}[hf:FRg Hs r bo bl M S (some p) F](hw:aJ ops vs ⟨some d,.entry x,ty,pos,af,g⟩=some true)(hn:aH d N=true)(hx:eo vs x=some (.pointer (some ⟨r,0,none⟩)))(h:X P b β (some (ops,rest)) k ⟨N,(d,.tuple #[bo p.1,p.2])::vs,ds⟩ Hs R):
 X P b β (some (ops,⟨some d,.entry x,ty,pos,af,g⟩::rest)) k ⟨N,vs,ds⟩ Hs R:=
 X.val U hn hw (λa w he hs=>by
  have e1:=aO he hx;obtain⟨i,⟨p1,p2,p3,p4,p5,p6,p7⟩,ug⟩:=yi (hs.cd hf.out);have hr:=dS ug;have hb:=dS (ug.cd (cQ _ _ _));obtain⟨h7,e,he2,s0,h8,h9⟩:=p7 p U;rw[h8,h7]at hr;have Ml:=run_entry_at (P:=P) w r bl i.since s0 i.es i.mX e hr hb he2 p2;simp only[kv,Prod.mk.injEq]at h9;simp[execOp,e1,Ml,h9.1,h9.2]) h
theorem zL{bo:K->Value}(r:Nat){M S:List (K×Value)}{ko:Option (K×Value)}{cc:Option (Array Oper×List Oper)}{E:Env}[hf:FRg Hs r bo bl M S ko F](h:X P b β cc k E (mp bo bl M::F) R):X P b β cc k E Hs R:=
 jo λw hs=>by
  obtain⟨i,hp,ug⟩:=yi (hs.cd hf.out);refine⟨_,mN (ug.cd (aN.drop _ _)) ⟨i.es,i.mX,U,hp.1,hp.2.1,λe he=>Nat.lt_of_lt_of_le (hp.2.2.1 e he) hp.2.2.2.2.1⟩,h⟩
end
def z7(P:Program)(G:bZ)(f:FuncId)(cap:List Value)(A:List az){α:Type}(bo:α->List Value)(uD tX:List α->Prop):Prop:=
 ∀(l:Nat) (I:List α->List az) (J:List az),
  (∀pre x,uD (pre++[x])->YT P G l (bo x).toArray (I pre) (cb (YQ (I (pre++[x])) J)))->
  TR P G f (.func (.yield l) #[] #[]::cap).toArray (A++I []) (cb λ_ B=>(∃ys,tX ys/\B=A++I ys)\/B=A++J)
theorem z7.of{G:bZ}{α:Type}{bo:α->List Value}{xs:List α}(h:IT P G f cap A bo xs):z7 P G f cap A bo (λpre=>∃post,xs=pre++post) (λys=>ys=xs):=by
 intro l I J hY;refine(h l I J λpre x post hx=>hY pre x ⟨post,by rw[hx];simp⟩).dH (aN.refl _) ?_;rintro e B hB;cases e with
 |panicked ch=>exact hB.elim
 |outgrown=>exact hB.elim
 |returned v=>
  rcases hB with rfl|rfl
  ·exact⟨_,.inl ⟨xs,U,U⟩,aN.refl _⟩
  ·exact⟨_,.inr U,aN.refl _⟩
theorem z7.mk{G:bZ}{α:Type}{bo:α->List Value}{uD tX:List α->Prop}(h:∀(l:Nat) (I:List α->az) (J:az),(∀pre x,uD (pre++[x])->YT P G l (bo x).toArray [I pre] (cb (YQ [I (pre++[x])] [J])))->
  TR P G f (.func (.yield l) #[] #[]::cap).toArray (A++[I []]) (cb λ_ B=>(∃ys,tX ys/\B=A++[I ys])\/B=A++[J])):z7 P G f cap A bo uD tX:=by
 intro l I J hY
 refine(h l (λp=>cV (I p)) (cV J) λpre x hx=>(hY pre x hx).dH (eW _) ?_).dH (mg A (gH _)) ?_
 ·exact bo1
 ·rintro e B hB;cases e with
  |panicked ch=>exact hB.elim
  |outgrown=>exact hB.elim
  |returned v=>
   rcases hB with⟨ys,yz,rfl⟩|rfl
   ·exact⟨_,.inl ⟨ys,yz,U⟩,mg A (eW _)⟩
   ·exact⟨_,.inr U,mg A (eW _)⟩
theorem z7.cV{G:bZ}{α:Type}{bo:α->List Value}{uD tX:List α->Prop}(h:z7 P G f cap A bo uD tX):z7 P G f cap [Sl.cV A] bo uD tX:=by
 intro l I J hY;refine(h l I J hY).dH (gG A _) ?_;rintro e B hB;cases e with
 |panicked ch=>exact hB.elim
 |outgrown=>exact hB.elim
 |returned v=>
  rcases hB with⟨ys,yz,rfl⟩|rfl
  ·exact⟨_,.inl ⟨ys,yz,U⟩,gp A _⟩
  ·exact⟨_,.inr U,gp A _⟩
section
variable{P:Program}{vs:List (Nat×Value)}
theorem QV{G:bZ}(hG:G.on β)(l9:mi b f0){f:Nat}[rH:CF P f]{g:Operand}{bd:Code}{k:List Item}{α:Type}{bo:α->List Value}{uD tX:List α->Prop}(hit:z7 P G f cap A bo uD tX)(hg:eo vs g=some (.func (.func f) #[] cap.toArray))(I:List α->List az)(J:List az)(hA:aN Hs (A++I []++F))(hl:∀x,ps.length=(bo x).length)(hp:∀p∈ps,aH p N=true)(body:∀(b':Frame) (β':bS) (l:Nat) (r:Loop) (pre:List α) (x:α),uD (pre++[x])->b'.roundOf=some l->G.on β'->r.state=.ready->
  X P b' β' none (.it [.code bD4,.beginRound,.code bd]) ⟨N,yx ps (bo x) vs,[]⟩ (pt l (.loop r)::I pre) (cb (YQ (pt l (.loop {r with state:=.ready,pending:=none})::I (pre++[x])) (pt l (.loop {r with state:=.done,pending:=some .ret})::J))))(done:∀D ys,tX ys->X P b β none (.it k) ⟨N,vs,⟨.collected D,#[]⟩::ds⟩ (pt D (.deferred (some []))::(A++I ys++F)) R)(stop:∀D,XR P b β ⟨N,vs,⟨.collected D,#[]⟩::ds⟩ (pt D (.deferred (some []))::(A++J++F)) R):
 X P b β none (.it (.code (.rangeFunc g ps.toArray bD4 bd)::k)) ⟨N,vs,ds⟩ Hs R:=by
 intro hb a w he hs
 refine ui l9.ro (wpIn_rangeFunc λfn _=>?_)
 obtain⟨rec,qL⟩:∃rec:Loop,rec={state:=.ready,pending:=none,fn:=fn,tmps:=a.tmps,params:=ps.toArray,assign:=bD4,body:=bd,defers:=w.heap.size}:=⟨_,U⟩
 have Bi:Sat β (pt (w.alloc (.deferred (some []))).heap.size (.loop rec)::pt w.heap.size (.deferred (some []))::Hs) ((w.alloc (.deferred (some []))).alloc (.loop rec)):=Sat.jP (Sat.jP hs _) _
 rw[World.size_alloc]at Bi
 have eg:a.eval g=.func (.func f) #[] cap.toArray:=by grind [aO]
 have hen:=run_enterLoop_outer (P:=P) (w:=w) fn a.tmps ps.toArray bD4 bd
 rw[<-qL]at hen
 refine⟨w.heap.size+1,[{target:=.collected w.heap.size,args:=#[]}],(w.alloc (.deferred (some []))).alloc (.loop rec),⟨.fn (.func f) cap.toArray,#[.func (.yield (w.heap.size+1)) #[] #[]]⟩,(w.alloc (.deferred (some []))).alloc (.loop rec),f,(.func (.yield (w.heap.size+1)) #[] #[]::cap).toArray,(w.alloc (.deferred (some []))).alloc (.loop rec),?_,?_,?_,?_,?_,?_⟩
 ·exact bg4
 ·grind [resolve,Deferred.ofValue,bN,Act.eval]
 ·grind
 ·have h9:=rH.out (.func (.yield (w.heap.size+1)) #[] #[]::cap).toArray ((w.alloc (.deferred (some []))).alloc (.loop rec))
  grind [invoke]
 ·grind
 ·have hE1:aN (pt (w.heap.size+1) (.loop rec)::pt w.heap.size (.deferred (some []))::Hs) ((A++(pt (w.heap.size+1) (.loop rec)::I []))++(pt w.heap.size (.deferred (some []))::F)):=bv4;obtain⟨β',hβ,vV,nL⟩:=jH (Bi.cd hE1);have hT:=hit (w.heap.size+1) (λpre=>pt (w.heap.size+1) (.loop rec)::I pre) (pt (w.heap.size+1) (.loop {rec with state:=.done,pending:=some .ret})::J) (λpre x hx=>by
   refine YT.of (l:=w.heap.size+1) (ps:=ps) (r:=rec) (n:=N) (vs:=vs) ⟨_,aN.refl _⟩ aV5 (hl x) hp ⟨by rw[qL];exact he.1,U,by rw[qL];exact he.2.2⟩ ?_
   intro b' β' ZT lC yy
   have:=body b' β' (w.heap.size+1) rec pre x hx lC yy aV5
   grind)
  have hc:=hT β' _ (G.mono hβ hG) vV;refine uw b.roundOf (hc.mono ?_);rintro e w3 ⟨B,hB,zU⟩;cases e with
  |panicked ch=>exact hB.elim
  |outgrown=>exact hB.elim
  |returned v=>
   have lP:=nL B w3 zU;have wq:∀(o:Obj) (Z:List az),((A++pt (w.heap.size+1) o::Z)++pt w.heap.size (.deferred (some []))::F).Perm (pt (w.heap.size+1) o::pt w.heap.size (.deferred (some []))::(A++Z++F)):=aJ3;rcases hB with⟨ys,yz,hB⟩|hB
   ·subst hB;have h5:=lP.cd (di (wq _ _));refine⟨none,_,by have:=run_endLoop (P:=P) (dS h5) (by rw[qL];simp);rw[qL]at this;exact this,?_⟩;have h6:=(oJ h5 (.loop {rec with state:=.exhausted})).cd (aN.drop _ _);rw[qL]at h6;exact done w.heap.size ys yz hb _ _ ⟨he.1,by show _::a.defers=_;rw[he.2.1],he.2.2⟩ h6
   exact Se
theorem Gh{G:bZ}(hG:G.on β)(l9:mi b f0){f:Nat}[rH:CF P f]{g:Operand}{bd:Code}{k:List Item}{α:Type}{bo:α->List Value}{uD tX:List α->Prop}{F1:List az}(hit:z7 P G f cap A bo uD tX)(hg:eo vs g=some (.func (.func f) #[] cap.toArray))(I:List α->List az)(I0:List az)(h0:I0=I [])[hA1:ES Hs A F1][hA2:ES F1 I0 F](hl:∀x,ps.length=(bo x).length)(hp:∀p∈ps,aH p N=true)(body:∀(b':Frame) (β':bS) (l:Nat) (r:Loop) (pre:List α) (x:α),uD (pre++[x])->b'.roundOf=some l->G.on β'->r.state=.ready->
  X P b' β' none (.it [.code bD4,.beginRound,.code bd]) ⟨N,yx ps (bo x) vs,[]⟩ (pt l (.loop r)::I pre) (cb (YQ (pt l (.loop {r with state:=.ready,pending:=none})::I (pre++[x])) (pt l (.loop {r with state:=.done,pending:=some .ret})::[pu False]))))(done:∀D ys,tX ys->X P b β none (.it k) ⟨N,vs,⟨.collected D,#[]⟩::ds⟩ (pt D (.deferred (some []))::(A++I ys++F)) R):
 X P b β none (.it (.code (.rangeFunc g ps.toArray bD4 bd)::k)) ⟨N,vs,ds⟩ Hs R:=by
 subst h0
 refine QV hG l9 hit hg I [pu False] (F:=F) aW4 hl hp body done λD=>?_
 refine XR.no (F:=pt D (.deferred (some []))::(A++F)) ?_
 refine(aN.cons _ ?_).trans (cQ _ _ _)
 refine di ?_
 simp_all
end
class wO(P:Program)(t:Nat)(zv:outParam Value):Prop where out:(P.info? t).bind (·.zero)=some zv
theorem wO.run(h:wO P t zv)(w:World):(zeroValue t).run P w=.ok zv w:=by
 obtain⟨i,hi,hz⟩:=Option.bind_eq_some_iff.1 h.out;simp[zeroValue,C1 hi,hz]
section
variable{P:Program}{vs:List (Nat×Value)}{rest:List Oper}
theorem rJ[ht:xy P t kt et][hs:oL P kt][hz:wO P et zv][hf:FM Hs bl ao M F](hw:aJ ops vs ⟨some d,.lookup t x i false,ty,pos,af,g⟩=some true)(hn:aH d N=true)(hx:eo vs x=some (.map (some bl)))(hi:eo vs i=some (ao y))(h:X P b β (some (ops,rest)) k ⟨N,(d,(fB M y).getD zv)::vs,ds⟩ Hs R):
 X P b β (some (ops,⟨some d,.lookup t x i false,ty,pos,af,g⟩::rest)) k ⟨N,vs,ds⟩ Hs R:=
 qS y bW hw hn hx hi (λw _=>hz.run w) h
theorem MO[ht:xy P t kt et][hs:oL P kt][hz:wO P et zv][hf:FM Hs bl ao M F](hw:aJ ops vs ⟨some d,.lookup t x i true,ty,pos,af,g⟩=some true)(hn:aH d N=true)(hx:eo vs x=some (.map (some bl)))(hi:eo vs i=some (ao y))(h:X P b β (some (ops,rest)) k ⟨N,(d,.tuple #[(fB M y).getD zv,.bool (fB M y).isSome])::vs,ds⟩ Hs R):
 X P b β (some (ops,⟨some d,.lookup t x i true,ty,pos,af,g⟩::rest)) k ⟨N,vs,ds⟩ Hs R:=
 UG y bW hw hn hx hi (λw _=>hz.run w) h
end
theorem GA{β:bS}{Hs:List az}{w:World}(h:Sat β Hs w)(hf:aN Hs (own e sz a n c xs::F)):(a=none/\n=0/\c=0)\/∃g,a=some ⟨g,0,none⟩/\n<=c:=by
 rcases dx (h.cd hf)with⟨h0,h1,h2,_⟩|⟨g,_,h1,_,h2,_⟩;all_goals grind
section
variable{P:Program}{vs:List (Nat×Value)}{rest:List Oper}
def ph(a:Option Addr)(c l sz:Nat):Option Addr:=if decide (c=l)=true then a else a.map (·.add (l*sz))
theorem av6{e' sz' l h:Nat}{low high:Option Operand}[ht:px P t e][hz:iI P e sz](hw:aJ ops vs ⟨some d,.slice t x low high none,ty,pos,af,g⟩=some true)(hn:aH d N=true)(hx:eo vs x=some (.slice a n c))[hf:FO Hs a e' sz' n c xs F](hl:Bd vs 0 low l)(hh:Bd vs n high h)(h1:l<=h)(h2:h<=n)(hk:n<=c->X P b β (some (ops,rest)) k ⟨N,(d,.slice (ph a c l sz) (h - l) (c - l))::vs,ds⟩ Hs R):X P b β (some (ops,⟨some d,.slice t x low high none,ty,pos,af,g⟩::rest)) k ⟨N,vs,ds⟩ Hs R:=by
 refine jo λw hs=>⟨Hs,hs,?_⟩
 have oM:n<=c:=bo4
 refine X.val (v:=.slice (ph a c l sz) (h - l) (c - l)) U hn hw (λact w he hs=>?_) (hk oM)
 have e1:=aO he hx
 have e3:=nV (P:=P) (w:=w) he (isS:=true) (cap:=c) hl hh h1 av
 simp[execOp,e1,Instr.sliceAt,Instr.slice,bC ht.out,e3,iR hz.out,ph]
theorem U0{e' sz' m:Nat}{y z:Operand}{kk kk':IntKind}{my mz:Int}[ht:px P t e][hz:iI P e sz](hw:aJ ops vs ⟨some d,.slice t x none (some y) (some z),ty,pos,af,g⟩=some true)(hn:aH d N=true)(hx:eo vs x=some (.slice a n c))(hy:eo vs y=some (.int kk my))(hz':eo vs z=some (.int kk' mz))(hmy:my=(m:Int))(hmz:mz=(m:Int))[hf:FO Hs a e' sz' n c xs F](h2:m<=n)(hk:X P b β (some (ops,rest)) k ⟨N,(d,.slice a m m)::vs,ds⟩ Hs R):X P b β (some (ops,⟨some d,.slice t x none (some y) (some z),ty,pos,af,g⟩::rest)) k ⟨N,vs,ds⟩ Hs R:=by
 refine X.val (v:=.slice a m m) U hn hw (λact w he hs=>?_) hk
 have e1:=aO he hx
 have e2:=aO he hy
 have e3:=aO he hz'
 subst hmy;subst hmz
 have hc:m<=c:=bo4
 have hb:(gl true n c none (some (.int kk m)) (some (.int kk' m))).run P w=.ok (0,m,m) w:=by
  simp[gl,run_sliceBound hc,run_sliceBound (ar m)]
 have ha:(if decide (m=0)=true then a else a.map (·.add (0*sz)))=a:=by
  rcases GA hs hf.out with⟨h3,_⟩|⟨g,h3,_⟩<;>subst h3<;>simp[Addr.add]
 have Bi:(Instr.slice t (.slice a n c) none (some (.int kk m)) (some (.int kk' m))).run P w=.ok (.slice a m m) w:=by
  simp only[Instr.slice,aU,bC ht.out,aC,hb,iR hz.out,bN]
  grind
 simp[execOp,e1,e2,e3,Instr.sliceAt,bC ht.out,Bi]
theorem Jl{E:Env}{cc:Option (Array Oper×List Oper)}(m:Nat)[hf:FO Hs a e sz n c xs F](hm:m<=n)(h:X P b β cc k E (own e sz a m m (xs.take (m*sz))::F) R):X P b β cc k E Hs R:=
 jo λw hs=>by
  refine⟨_,?_,h⟩
  rcases dx (hs.cd hf.out)with⟨rfl,h0,rfl,rfl,ug⟩|⟨g,cur,rfl,h3,h6,h7,h8,h9,ug⟩
  ·subst h0
   grind [iZ]
  grind [cX,fK]
theorem ni{E:Env}{cc:Option (Array Oper×List Oper)}(a:Option Addr)[hf:FO Hs a e sz n c xs F](h:(a=none->n=0/\c=0)->n<=c->X P b β cc k E Hs R):X P b β cc k E Hs R:=
 jo λw hs=>by
  refine⟨Hs,hs,?_⟩;rcases GA hs hf.out with⟨h1,h2,h3⟩|⟨g,h1,h2⟩
  ·exact h (λ_=>⟨h2,h3⟩) av
  ·exact h (λhh=>by grind) h2
theorem CK[hkk:Kt.nU k][DecidableEq K]{bo:K->Value}{t2:Nat}{m:Operand}{M:List (K×Value)}(y:K)[ht:xy P t kt et][hf:FM Hs bl bo M F](hk:Keyed P kt bo)(hw:aJ ops vs ⟨none,.call ⟨.builtin .delete,#[m,i],#[t,t2]⟩,ty,pos,af,g⟩=some true)(hm:eo vs m=some (.map (some bl)))(hi:eo vs i=some (bo y))(h:X P b β (some (ops,rest)) k ⟨N,vs,ds⟩ (mp bo bl (tW M y)::F) R):
 X P b β (some (ops,⟨none,.call ⟨.builtin .delete,#[m,i],#[t,t2]⟩,ty,pos,af,g⟩::rest)) k ⟨N,vs,ds⟩ Hs R:=by
 intro hb
 refine X.op hw (λa w he hs=>?_) hb
 have e1:=aO he hm
 have e2:=aO he hi
 obtain⟨w',h1,h2⟩:=Nb (P:=P) (t:=t) (ts:=#[t,t2]) (ty:=ty) U hk (hs.cd hf.out) y
 refine⟨.tuple #[],w',by simp[execOp,resolve,invoke,builtin,e1,e2,h1],?_⟩
 exact h hb _ _ he h2
end
section
variable{P:Program}
theorem Jr{args:Array Value}{Q:Value->List az->Prop}{l m:Nat}{xs:List UInt8}(h:TR P G f args (bV RB 1 (ph a c l 1) ((xs.drop l).take m)::A) (cb Q))(hQ:∀v B,Q v B->rP B)(hn:n=xs.length)(hlm:l+m<=n)(oM:n<=c):
 TR P G f args (own e 1 a n c (xs.map fO)::A) (cb λv B=>∃B',Q v B'/\B=own e 1 a n c (xs.map fO)::B'):=by
 rw[lD]
 refine mf (bo:=λx=>[fO x]) (h.dH ?_ (λe B hB=>⟨B,hB,aN.refl _⟩)) hQ hn (λ_=>rfl)
 rintro r o ⟨o1,o2,hd,h1,h2,hp,iz⟩
 refine⟨fL,o2,cR _,cJ _,h2,λr' nG=>?_,iz⟩
 exact(hp r' nG).cut (decide (c=l)) av bB
end
end
section
variable{x:Operand}{sz bl o t:Nat}
section
variable{P:Program}{vs:List (Nat×Value)}{rest:List Oper}
theorem dF{α:Type}{bo:α->List Value}{n:Nat}{y:α}[ht:TA P t true][hz:iI P t n](hw:aJ ops vs ⟨some d,.load t x,ty,pos,af,g⟩=some true)(hn:aH d N=true)(hx:eo vs x=some (.pointer (some ⟨bl,o,none⟩)))[hf:C2 Hs bl (bp bo) sz o y](hv:(bo y).length=n)(h:X P b β (some (ops,rest)) k ⟨N,(d,.agg (bo y).toArray)::vs,ds⟩ Hs R):X P b β (some (ops,⟨some d,.load t x,ty,pos,af,g⟩::rest)) k ⟨N,vs,ds⟩ Hs R:=
 X.val U hn hw (λa w he hs=>by
  have e1:=aO he hx;obtain⟨rr,hr⟩:=hf.out;obtain⟨l',h1,h2,h3⟩:=Sat.ro (hs.cd hr);have M6:l'=bo y:=h3;subst M6;have hg:=iY (P:=P) (w:=w) ht.out;have h5:=run_loadCells_list (P:=P) w ⟨bl,o,none⟩ (bo y) (λj v hj=>by rw[addr_add];exact h2.cell hj);rw[hv]at h5;simp[execOp,e1,iO,eM,loadVar,hg,iR hz.out,h5]) h
theorem uo{α:Type}{bo:α->List Value}{o':Nat}{y:α}{v:Value}[ht:TA P t false](hw:aJ ops vs ⟨some d,.load t x,ty,pos,af,g⟩=some true)(hn:aH d N=true)(hx:eo vs x=some (.pointer (some ⟨bl,o',none⟩)))[hf:C2 Hs bl (bp bo) sz o y](i:Nat)(ho:o'=o+i)(hv:(bo y)[i]?=some v)(h:X P b β (some (ops,rest)) k ⟨N,(d,v)::vs,ds⟩ Hs R):X P b β (some (ops,⟨some d,.load t x,ty,pos,af,g⟩::rest)) k ⟨N,vs,ds⟩ Hs R:=
 X.val U hn hw (λa w he hs=>by
  have e1:=aO he hx;obtain⟨rr,hr⟩:=hf.out;obtain⟨l',h1,h2,h3⟩:=Sat.ro (hs.cd hr);have M6:l'=bo y:=h3;subst M6;subst ho;have h4:=h2.cell hv;have hg:=iY (P:=P) (w:=w) ht.out;simp[execOp,e1,iO,eM,loadVar,hg,h4]) h
end
class Ug(P:Program)(t:Nat)(n e:outParam Nat):Prop where out:P.underlying t=some (.array n e)
theorem BS.sub{r:Hp}{b i:Nat}{l m:List Value}(h:BS r b o l)(hm:∀(j:Nat) (v:Value),m[j]?=some v->l[i+j]?=some v):BS r b (o+i) m:=by
 obtain⟨cs,ty,fr,h1,h2⟩:=h;exact⟨cs,ty,fr,h1,λj v hj=>by grind⟩
section
variable{P:Program}{vs:List (Nat×Value)}{rest:List Oper}
theorem yb{e n j:Nat}{i:Operand}{kk:IntKind}{m:Int}[ht:Ug P t n e][hz:iI P e sz](hw:aJ ops vs ⟨some d,.indexAddr t x i,ty,pos,af,g⟩=some true)(hn:aH d N=true)(hx:eo vs x=some (.pointer (some ⟨bl,o,none⟩)))(hi:eo vs i=some (.int kk m))(hm:m=(j:Int))(hj:j<n)(h:X P b β (some (ops,rest)) k ⟨N,(d,.pointer (some ⟨bl,o+j*sz,none⟩))::vs,ds⟩ Hs R):
 X P b β (some (ops,⟨some d,.indexAddr t x i,ty,pos,af,g⟩::rest)) k ⟨N,vs,ds⟩ Hs R:=
 X.val U hn hw (λact w he hs=>by
  have e1:=aO he hx;have e2:=aO he hi;subst hm;simp[execOp,e1,e2,Instr.indexAt,asIntOf,bC ht.out,iR hz.out,hj,addr_add,eM]) h
theorem UU{e n l h:Nat}{low high:Option Operand}[ht:Ug P t n e][hz:iI P e sz](hw:aJ ops vs ⟨some d,.slice t x low high none,ty,pos,af,g⟩=some true)(hn:aH d N=true)(hx:eo vs x=some (.pointer (some ⟨bl,o,none⟩)))(hl:Bd vs 0 low l)(hh:Bd vs n high h)(h1:l<=h)(h2:h<=n)(h3:l<n)(hk:X P b β (some (ops,rest)) k ⟨N,(d,.slice (some ⟨bl,o+l*sz,none⟩) (h - l) (n - l))::vs,ds⟩ Hs R):
 X P b β (some (ops,⟨some d,.slice t x low high none,ty,pos,af,g⟩::rest)) k ⟨N,vs,ds⟩ Hs R:=
 X.val U hn hw (λact w he hs=>by
  have e1:=aO he hx;have e3:=nV (P:=P) (w:=w) he (isS:=false) (cap:=n) hl hh h1 h2;have h4:¬n=l:=av;simp[execOp,e1,Instr.sliceAt,bC ht.out,e3,iR hz.out,eM,addr_add,h4]) hk
theorem Jj(gb o:Nat)(l:List Value)(hA:BS β.r gb o l){cc:Option (Array Oper×List Oper)}{E:Env}(h:X P b β cc k E (el (bp λ_:Unit=>l) l.length gb o ()::Hs) R):X P b β cc k E Hs R:=
 jo λw hs=>by
  refine⟨_,?_,h⟩;obtain⟨r,o',h0,hft,iz,pf⟩:=hs;exact⟨r,o',h0,hft,⟨fL,o',cR _,cJ _,.refl _,λr' nG=>⟨l,U,(hA.mono (h0.trans nG)),U⟩,iz⟩,pf⟩
theorem aU5{α:Type}{Re:Rp α}{cc:Option (Array Oper×List Oper)}{E:Env}(bl:Nat)(l:Nat){xs:List α}[hf:zI Hs (some ⟨bl,0,none⟩) Re sz xs](hl:l<=xs.length)(h:X P b β cc k E (bV Re sz (some ⟨bl,l*sz,none⟩) (xs.drop l)::Hs) R):X P b β cc k E Hs R:=by
 obtain⟨rest,hr⟩:=hf.out
 refine X.cd (il hr λr h3=>?_) h
 have:=h3.cut (l:=l) (n:=xs.length - l) false av nH
 grind [aD,addr_add]
end
end
end Go.Sl
namespace Go.Sl
open Go.RowKit
variable{β:bS}{Hs:List az}{b:Frame}{R:Ending->List az->Prop}{k:Kt}{N d ty:Nat}{ds:List Deferred}{ops:Array Oper}{pos:String}{af:Array Edge}{g:Option (Nat×Bool)}{E:Env}{cc:Option (Array Oper×List Oper)}{w:World}{G:bZ}{α:Type}
section
variable{x:Operand}{t t':Nat}{u v:Value}
class TIf(P:Program)(t:Nat):Prop where out:∃ms,P.underlying t=some (.interface ms)
class NH(P:Program)(t:Nat):Prop where out:P.concrete t=true
def bj1:Value->Bool
 |.nilIface=>true
 |.iface _ _=>true
 |_=>false
def aX8:Value->Bool
 |.nilIface=>true
 |_=>false
section
variable{P:Program}{vs:List (Nat×Value)}{rest:List Oper}
theorem qQ[ht:NH P t](hw:aJ ops vs ⟨some d,.makeInterface t x,ty,pos,af,g⟩=some true)(hn:aH d N=true)(hx:eo vs x=some u)(h:X P b β (some (ops,rest)) k ⟨N,(d,.iface t u)::vs,ds⟩ Hs R):X P b β (some (ops,⟨some d,.makeInterface t x,ty,pos,af,g⟩::rest)) k ⟨N,vs,ds⟩ Hs R:=
 X.val U hn hw (λa w he _=>by
  have e1:=aO he hx;simp[execOp,e1,run_makeInterface _ t u ht.out]) h
theorem pg{op:BinOp}[ht:TIf P t](hw:aJ ops vs ⟨some d,.binOp op t x (.const .nilIface) t',ty,pos,af,g⟩=some true)(hn:aH d N=true)(hx:eo vs x=some u)(hi:bj1 u=true)(hv:(match op with|.eql=>some (jZ (aX8 u))|.neq=>some (jZ (!aX8 u))|_=>none)=some v)(h:X P b β (some (ops,rest)) k ⟨N,(d,v)::vs,ds⟩ Hs R):X P b β (some (ops,⟨some d,.binOp op t x (.const .nilIface) t',ty,pos,af,g⟩::rest)) k ⟨N,vs,ds⟩ Hs R:=
 X.val U hn hw (λa w he _=>by
  have e1:=aO he hx;have e2:a.eval (.const .nilIface)=.nilIface:=U;obtain⟨ms,Ib⟩:=ht.out;obtain⟨n,hn⟩:=sJ;cases op<;>simp only[fF,reduceCtorEq]at hv;all_goals
   subst hv
   cases u<;>simp only[bj1,bY]at hi
   all_goals simp[execOp,e1,e2,eqGuard,binOp,hn,fC,bC Ib,aX8]) h
theorem UL{y:Operand}{m n:Bool}[ht:aV3 P t](hw:aJ ops vs ⟨some d,.binOp .eql t x y t',ty,pos,af,g⟩=some true)(hn:aH d N=true)(hx:eo vs x=some (.bool m))(hy:eo vs y=some (.bool n))(h:X P b β (some (ops,rest)) k ⟨N,(d,.bool (m==n))::vs,ds⟩ Hs R):X P b β (some (ops,⟨some d,.binOp .eql t x y t',ty,pos,af,g⟩::rest)) k ⟨N,vs,ds⟩ Hs R:=
 X.val U hn hw (λa w he _=>by
  have e1:=aO he hx;have e2:=aO he hy;obtain⟨n',ZW⟩:=sJ;simp[execOp,e1,e2,eqGuard,binOp,ZW,fC,bC ht.out]) h
theorem M0{tx:Nat}{y:Operand}{kk q:IntKind}{m n:Int}[ht:TIf P t][hx':uy P tx q](hc:(P.info? tx).map (·.comparable)=some true)(hw:aJ ops vs ⟨some d,.binOp .eql t x y t',ty,pos,af,g⟩=some true)(hn:aH d N=true)(hx:eo vs x=some (.iface tx (.int kk m)))(hy:eo vs y=some (.iface tx (.int kk n)))(h:X P b β (some (ops,rest)) k ⟨N,(d,.bool (m==n))::vs,ds⟩ Hs R):X P b β (some (ops,⟨some d,.binOp .eql t x y t',ty,pos,af,g⟩::rest)) k ⟨N,vs,ds⟩ Hs R:=
 X.val U hn hw (λa w he _=>by
  have e1:=aO he hx;have e2:=aO he hy;obtain⟨ms,Ib⟩:=ht.out;have h1:=Lib.run_eql_iface_int (P:=P) w m n (k:=kk) Ib hc hx'.out;simp[execOp,e1,e2,eqGuard,h1]) h
end
theorem Sat.below{β:bS}{Hs:List az}{w w':World}(h:Sat β Hs w)(hq:β.q=false)(hb:Below w.heap.size w w'):Sat β Hs w':=by
 obtain⟨r,o,h0,hf,iz,pf⟩:=h;have key:∀{q:Hp},Hp.le q (hp w)->Hp.le q (hp w'):=by
  intro q hq n z hn;have h3:=hq _ _ hn;have h4:=hb.block n (Jy h3);exact aM9
 exact⟨r,o,h0,⟨key hf.r,key hf.o,key hf.f,hf.ro,hf.rf,hf.of⟩,iz,pf.trans ⟨hb.os,hb.tape,hb.output,hb.size,λh=>by grind⟩⟩
theorem TR.below{P:Program}{G:bZ}(hq:G.q=false){f:FuncId}{args:Array Value}(h:∀w,Calls P f args w λe w'=>e=.returned v/\Below w.heap.size w w')(A:List az:=[]):TR P G f args A (cT v):=
 λβ w hG hs=>(h w).mono λe w' ⟨h1,h2⟩=>by subst h1;exact⟨[],⟨U,U⟩,(hs.below (by cases hb:β.q with|false=>rfl|true=>have:=hG.2 hb;grind) h2).cd (aN.nil _)⟩
end
end Go.Sl
namespace Go.Sl
variable{β:bS}{Hs:List az}{b:Frame}{R:Ending->List az->Prop}{k:Kt}{N d ty:Nat}{ds:List Deferred}{ops:Array Oper}{pos:String}{af:Array Edge}{g:Option (Nat×Bool)}{E:Env}{cc:Option (Array Oper×List Oper)}{w:World}{G:bZ}{α:Type}
section
variable{xs:List Value}{rs F:List az}{x:Operand}{K:Type}{v z:Value}{t bl st sz i:Nat}(j:Nat)
section
variable{bo:α->List Value}{sz:Nat}
theorem wV(kF:∀x,(bo x).length=sz):∀xs:List α,(xs.flatMap bo).length=xs.length*sz
 |[]=>by simp
 |x::r=>by rw[eQ,aG,kF,wV kF r,ax,fP];omega
theorem yL(kF:∀x,(bo x).length=sz):∀(xs:List α) (j:Nat),(xs.flatMap bo).take (j*sz)=(xs.take j).flatMap bo
 |[],j=>by simp
 |x::r,0=>by simp
 |x::r,j+1=>by
  rw[eQ,List.take_succ_cons,eQ,List.take_append,kF,<-yL kF r j];rw[show(j+1)*sz - sz=j*sz from by rw[fP];omega,aD (by rw[kF,fP];omega)]
theorem Co(kF:∀x,(bo x).length=sz):∀(xs:List α) (j:Nat),(xs.flatMap bo).drop (j*sz)=(xs.drop j).flatMap bo
 |[],j=>by simp
 |x::r,0=>by simp
 |x::r,j+1=>by
  rw[eQ,List.drop_succ_cons,List.drop_append,kF,<-Co kF r j];rw[show(j+1)*sz - sz=j*sz from by rw[fP];omega,bc (by rw[kF,fP];omega),ai]
theorem P0(kF:∀x,(bo x).length=sz)(xs:List α)(j:Nat)(h:j<xs.length):((xs.flatMap bo).drop (j*sz)).take sz=bo xs[j]:=by
 grind [Co,aP]
theorem Ww(kF:∀x,(bo x).length=sz)(xs:List α)(j:Nat)(h:j<xs.length)(y:α):
 (xs.flatMap bo).take (j*sz)++bo y++(xs.flatMap bo).drop (j*sz+(bo y).length)=(xs.set j y).flatMap bo:=by
 rw[kF,show j*sz+sz=(j+1)*sz from by grind,yL kF,Co kF,List.set_eq_take_append_cons_drop,if_pos h]
 simp
end
section
variable{P:Program}{vs:List (Nat×Value)}{rest:List Oper}
theorem gN{α:Type}{bo:α->List Value}{l:List α}{e n c o:Nat}[ht:TA P t true][hz:iI P t sz](hw:aJ ops vs ⟨some d,.load t x,ty,pos,af,g⟩=some true)(hn:aH d N=true)(hx:eo vs x=some (.pointer (some ⟨bl,o,none⟩)))[hf:FO Hs (some ⟨bl,0,none⟩) e sz n c xs rs](HZ:xs=l.flatMap bo)(kF:∀x,(bo x).length=sz)(ho:o=j*sz)(hj:j<l.length)(h:X P b β (some (ops,rest)) k ⟨N,(d,.agg (bo l[j]).toArray)::vs,ds⟩ Hs R):X P b β (some (ops,⟨some d,.load t x,ty,pos,af,g⟩::rest)) k ⟨N,vs,ds⟩ Hs R:=by
 subst ho HZ
 exact Mx hw hn hx (kF _) (P0 kF l j hj) h
theorem HK{α:Type}{bo:α->List Value}{l:List α}(i:Nat){e n c o:Nat}[ht:TA P t false](hw:aJ ops vs ⟨some d,.load t x,ty,pos,af,g⟩=some true)(hn:aH d N=true)(hx:eo vs x=some (.pointer (some ⟨bl,o,none⟩)))[hf:FO Hs (some ⟨bl,0,none⟩) e sz n c xs rs](HZ:xs=l.flatMap bo)(kF:∀x,(bo x).length=sz)(ho:o=j*sz+i)(hj:j<l.length)(hv:(bo l[j])[i]?=some v)(h:X P b β (some (ops,rest)) k ⟨N,(d,v)::vs,ds⟩ Hs R):X P b β (some (ops,⟨some d,.load t x,ty,pos,af,g⟩::rest)) k ⟨N,vs,ds⟩ Hs R:=by
 subst ho HZ
 refine X.iP hw hn hx ?_ h
 have h1:=P0 kF l j hj
 grind
theorem nT[hk:Kt.nU k]{α:Type}{bo:α->List Value}{l:List α}(y:α){e n c o:Nat}{z:Operand}[hz:iI P t sz](hw:aJ ops vs ⟨none,.store t x z,ty,pos,af,g⟩=some true)(hx:eo vs x=some (.pointer (some ⟨bl,o,none⟩)))(hy:eo vs z=some v)[hf:FO Hs (some ⟨bl,0,none⟩) e sz n c xs rs](HZ:xs=l.flatMap bo)(kF:∀x,(bo x).length=sz)(ho:o=j*sz)(hj:j<l.length)(hl:cl v=some (bo y))(h2:mB (bo y)=true)(h:X P b β (some (ops,rest)) k ⟨N,vs,ds⟩ (own e sz (some ⟨bl,0,none⟩) n c ((l.set j y).flatMap bo)::rs) R):X P b β (some (ops,⟨none,.store t x z,ty,pos,af,g⟩::rest)) k ⟨N,vs,ds⟩ Hs R:=by
 subst ho HZ
 refine Pe hw hx hy hl (kF y) h2 ?_ ?_
 ·rw[kF,wV kF]
  have:(j+1)*sz<=l.length*sz:=cX _ hj
  grind
 ·rw[Ww kF l j hj y];exact h
end
def mpS{K:Type}(bo:K->Value)(b:Nat)(M:List (K×Value))(i st:Nat):az:=
 ⟨λ_ o=>∃es mX e,o b=some (.map es mX)/\es.toList.map (λe=>(e.key,e.val))=M.map (λp=>(bo p.1,p.2))/\(es.toList.map (λe:MapEntry=>e.born)).Nodup/\(∀e∈es.toList,e.born<mX)/\es.toList[i]?=some e/\e.born=st,
  λ_ ho ⟨es,mX,e,h1,h2⟩=>⟨es,mX,e,ho _ _ h1,h2⟩⟩
class FMS(Hs:List az)(b:Nat){K:outParam Type}(bo:outParam (K->Value))(M:outParam (List (K×Value)))(i st:outParam Nat)(rest:outParam (List az)):Prop where out:aN Hs (mpS bo b M i st::rest)
instance FMS.here{K:Type}(bo:K->Value)(b:Nat)(M:List (K×Value))(i st:Nat)(Hs:List az):FMS (mpS bo b M i st::Hs) b bo M i st Hs:=⟨aN.refl _⟩
theorem Jx{β:bS}{Hs:List az}{w:World}{bo:K->Value}{b:Nat}{M:List (K×Value)}(h:Sat β (mpS bo b M i st::Hs) w):
 ∃es mX e,es.toList.map (λe=>(e.key,e.val))=M.map (λp=>(bo p.1,p.2))/\(es.toList.map (·.born)).Nodup/\(∀e∈es.toList,e.born<mX)/\es.toList[i]?=some e/\e.born=st/\Sat β (Sl.pt b (.map es mX)::Hs) w:=by
 obtain⟨r,o,h0,hf,⟨o1,o2,hd,h1,h2,⟨es,mX,e,hx,g1,g2,g3,g4,g5⟩,iz⟩,pf⟩:=h
 exact⟨es,mX,e,g1,g2,g3,g4,g5,r,o,h0,hf,⟨o1,o2,hd,h1,h2,hx,iz⟩,pf⟩
theorem CR{β:bS}{Hs:List az}{w:World}{bo:K->Value}{b:Nat}{M:List (K×Value)}{es:Array MapEntry}{mX:Nat}{e:MapEntry}(h:Sat β (Sl.pt b (.map es mX)::Hs) w)(g1:es.toList.map (λe=>(e.key,e.val))=M.map (λp=>(bo p.1,p.2)))(g2:(es.toList.map (·.born)).Nodup)(g3:∀e∈es.toList,e.born<mX)(g4:es.toList[i]?=some e)(g5:e.born=st):Sat β (mpS bo b M i st::Hs) w:=by
 obtain⟨r,o,h0,hf,⟨o1,o2,hd,h1,h2,hx,iz⟩,pf⟩:=h
 exact⟨r,o,h0,hf,⟨o1,o2,hd,h1,h2,⟨es,mX,e,hx,g1,g2,g3,g4,g5⟩,iz⟩,pf⟩
theorem Ig{l:List MapEntry}(hn:(l.map (·.born)).Nodup){j:Nat}{e0:MapEntry}(h:l[j]?=some e0):l.findIdx? (λe=>((e.born:Nat):Int)==((e0.born:Nat):Int))=some j:=by
 induction l generalizing j<;>grind
theorem Km(xs:Array MapEntry)(p:MapEntry->Bool):xs.findIdx? p=xs.toList.findIdx? p:=by
 cases xs;simp
section
variable {P:Program}{w:World}{kt et:Nat}{K:Type}[DecidableEq K]{bo:K->Value}
theorem R1{β:bS}{Hs:List az}{b:Nat}{M:List (K×Value)}[ht:xy P t kt et](hk:Keyed P kt bo)(h:Sat β (mp bo b M::Hs) w)(x:K)(hz:∀w,(zeroValue et).run P w=.ok z w):
 ∃w' i st,(Instr.mapEntry t (.map (some b)) (bo x)).run P w=.ok (.tuple #[(fB M x).getD z,.int .i64 (st:Nat)]) w'/\(gJ M x ((fB M x).getD z)).findIdx? (·.1=x)=some i/\Sat β (mpS bo b (gJ M x ((fB M x).getD z)) i st::Hs) w':=by
 obtain⟨o,⟨es,mX,rfl,h1,h2,h3⟩,hs⟩:=Sat.map h
 have hb:=dS hs
 have hf:=uA (P:=P) (w:=w) h1 hk x
 rw[uB h1]at hf
 have hlen:es.size=M.length:=Rh
 cases hi:M.findIdx? (·.1=x)with
 |none=>
  rw[hi]at hf;have hg:fB M x=none:=by rw[Ci,hi];rfl
  rw[hg,Option.getD_none,lR hi];refine⟨{w with heap:=w.heap.setIfInBounds b (.map (es.push {key:=bo x,val:=z,born:=mX}) (mX+1))},M.length,mX,?_,?_,?_⟩
  ·simp only[Instr.mapEntry,aU,bC ht.out,aC,getObj,fo,hb,hk.check,hf,Option.bind_none,setObj,hz,bN];rfl
  ·rw[List.findIdx?_append,hi];simp
  ·refine CR (e:={key:=bo x,val:=z,born:=mX}) (Sat.setObj hs) ?_ ?_ ?_ ?_ U
   ·simp[h1]
   ·simp only[Array.toList_push,cq,aK,ie];rw[eP];refine⟨h2,by simp,?_⟩;intro a ha c hc;simp at hc;obtain⟨e,he,rfl⟩:=bj.1 ha;have:=h3 e he;omega
   ·intro e he;simp at he;rcases he with he|rfl
    ·have:=h3 e (by simpa using he);omega
    ·simp
   ·rw[Array.toList_push,<-hlen,List.getElem?_append_right nH];simp
 |some i=>
  rw[hi]at hf;have Mm:i<M.length:=(bA.1 hi).1;have hie:i<es.size:=av;have Na:M[i]?=some M[i]:=aV Mm;have zX:M[i].1=x:=bA9;have hej:es[i]?=some es[i]:=Array.getElem?_eq_getElem hie;have hee:=congrArg (λl=>l[i]?) h1;simp only[dO,Na,cZ,hej,bH,fF,Prod.mk.injEq]at hee;have hg:fB M x=some M[i].2:=by rw[Ci,hi];simp[Na]
  have hput:gJ M x M[i].2=M:=by
   rw[lQ hi];apply dP;intro j;rw[List.getElem?_set];by_cases xG:i=j
   ·subst xG;rw[if_pos U,if_pos Mm,Na,<-zX]
   ·rw[if_neg xG]
  simp only[Option.bind_some,Na,bH]at hf;rw[hg,bX,hput];have hsame:(es.modify i λe=>{e with key:=bo x})=es:=by
   apply Array.ext_getElem?;intro j;rw[eF];by_cases xG:i=j
   ·subst xG;rw[if_pos U,hej,bH];congr 1;have:es[i].key=bo x:=by rw[hee.1,zX]
    rw[<-this]
   ·rw[if_neg xG]
  refine⟨{w with heap:=w.heap.setIfInBounds b (.map es mX)},i,es[i].born,?_,hi,?_⟩
  ·simp only[Instr.mapEntry,aU,bC ht.out,aC,getObj,fo,hb,hk.check,hf,hej,bH,bX,hee.1,zX,hk.same,hsame,setObj,bN];rfl
  ·exact CR (e:=es[i]) (Sat.setObj hs) h1 h2 h3 (by rw[cZ];exact hej) U
theorem Dv{β:bS}{Hs:List az}{b:Nat}{M:List (K×Value)}{x:K}(hi:M.findIdx? (·.1=x)=some i)(h:Sat β (mpS bo b M i st::Hs) w)(v:Value):
 ∃w',(Instr.entryStore t (.map (some b)) (.int .i64 st) v).run P w=.ok () w'/\Sat β (mp bo b (gJ M x v)::Hs) w':=by
 obtain⟨es,mX,e,h1,h2,h3,h4,h5,hs⟩:=Jx h
 have hb:=dS hs
 have hlen:es.size=M.length:=Rh
 have Mm:i<M.length:=(bA.1 hi).1
 have hie:i<es.size:=av
 have Na:M[i]?=some M[i]:=aV Mm
 have zX:M[i].1=x:=bA9
 have hee:=congrArg (λl=>l[i]?) h1
 simp only[dO,Na,h4,bH,fF,Prod.mk.injEq]at hee
 have hidx:es.findIdx? (λe=>(e.born:Int)==((st:Nat):Int))=some i:=by
  rw[Km,<-h5];exact Ig h2 h4
 refine⟨{w with heap:=w.heap.setIfInBounds b (.map (es.modify i λe=>{e with val:=v}) mX)},?_,?_⟩
 ·simp only[Instr.entryStore,aU,aC,getObj,fo,hb,asInt,asIntOf,bN,hidx,setObj]
 ·rw[lQ hi];refine mN (Sat.setObj hs) ⟨_,_,U,?_,?_,?_⟩
  ·apply dP;intro j;have h6:=congrArg (λl=>l[j]?) h1;simp only[dO,cZ]at h6 ⊢;rw[eF,List.getElem?_set];by_cases xG:i=j
   ·subst xG;rw[cZ]at h4;simp[Mm,h4,hee.1,zX]
   ·simp[xG,h6]
  ·have:(es.modify i λe=>{e with val:=v}).toList.map (·.born)=es.toList.map (·.born):=by
    apply dP;intro j;simp only[dO,cZ];rw[eF];by_cases xG:i=j
    ·subst xG;simp[Function.comp_def]
    ·simp[xG]
   rw[this];exact h2
  ·intro e he;obtain⟨j,hj⟩:=List.getElem?_of_mem he;rw[cZ,eF]at hj;by_cases xG:i=j
   ·subst xG;simp only[if_true]at hj;obtain⟨e',FD,rfl⟩:=bk.1 hj;exact h3 e' (by have:=Array.mem_of_getElem? FD;simpa using this)
   ·simp only[xG,if_false]at hj;exact h3 e (by have:=Array.mem_of_getElem? hj;simpa using this)
theorem kV(M:List (K×Value))(x:K)(v v':Value):gJ (gJ M x v) x v'=gJ M x v':=by
 cases hi:M.findIdx? (·.1=x)with
 |none=>
  rw[lR hi,lR hi];have:(M++[(x,v)]).findIdx? (·.1=x)=some M.length:=bE;rw[lQ this];simp
 |some i=>
  have Mm:i<M.length:=(bA.1 hi).1;rw[lQ hi,lQ hi];have:(M.set i (x,v)).findIdx? (·.1=x)=some i:=by
   grind [bA]
  rw[lQ this,List.set_set]
end
section
variable{P:Program}{vs:List (Nat×Value)}{rest:List Oper}
theorem CQ[hkk:Kt.nU k][DecidableEq K]{bo:K->Value}{kt et:Nat}{m i:Operand}{M:List (K×Value)}(y:K)[ht:xy P t kt et][hz:wO P et z][hf:FM Hs bl bo M F](hk:Keyed P kt bo)(hw:aJ ops vs ⟨some d,.mapEntry t m i,ty,pos,af,g⟩=some true)(hn:aH d N=true)(hm:eo vs m=some (.map (some bl)))(hi:eo vs i=some (bo y))(h:∀j st,(gJ M y ((fB M y).getD z)).findIdx? (·.1=y)=some j->X P b β (some (ops,rest)) k ⟨N,(d,.tuple #[(fB M y).getD z,.int .i64 (st:Nat)])::vs,ds⟩ (mpS bo bl (gJ M y ((fB M y).getD z)) j st::F) R):
 X P b β (some (ops,⟨some d,.mapEntry t m i,ty,pos,af,g⟩::rest)) k ⟨N,vs,ds⟩ Hs R:=
 ly (ι:={q:Nat×Nat // (gJ M y ((fB M y).getD z)).findIdx? (·.1=y)=some q.1}) (v:=λq=>.tuple #[(fB M y).getD z,.int .i64 (q.1.2:Nat)]) (Hs':=λq=>mpS bo bl (gJ M y ((fB M y).getD z)) q.1.1 q.1.2::F) U hn hw (λa w he hs=>by
  have e1:=aO he hm;have e2:=aO he hi;obtain⟨w',j,st,h1,h2,h3⟩:=R1 (P:=P) (t:=t) hk (hs.cd hf.out) y hz.run;exact⟨⟨(j,st),h2⟩,w',by grind [execOp,aU,aC,bN],h3⟩) λq=>h q.1.1 q.1.2 q.2
theorem wg[hkk:Kt.nU k][DecidableEq K]{bo:K->Value}{j:Nat}{m i:Operand}{M:List (K×Value)}(y:K)[hf:FMS Hs bl bo M j st F](hj:M.findIdx? (·.1=y)=some j)(hw:aJ ops vs ⟨none,.entryStore t m i x,ty,pos,af,g⟩=some true)(hm:eo vs m=some (.map (some bl)))(hi:eo vs i=some (.int .i64 (st:Nat)))(hx:eo vs x=some v)(h:X P b β (some (ops,rest)) k ⟨N,vs,ds⟩ (mp bo bl (gJ M y v)::F) R):
 X P b β (some (ops,⟨none,.entryStore t m i x,ty,pos,af,g⟩::rest)) k ⟨N,vs,ds⟩ Hs R:=
 Jq U hw (λa w he hs=>by
  have e1:=aO he hm;have e2:=aO he hi;have e3:=aO he hx;obtain⟨w',h1,h2⟩:=Dv (P:=P) (t:=t) hj (hs.cd hf.out) v;exact⟨w',by simp[execOp,e1,e2,e3,h1],h2⟩) h
end
end
end Go.Sl
namespace Go.Sl
def rmp{K:Type}(bo:K->Value)(b:Nat)(M:List (K×Value)):az:=ro λr=>∃x,r b=some x/\HV bo M x
class FRM(Hs:List az)(b:Nat){K:outParam Type}(bo:outParam (K->Value))(M:outParam (List (K×Value))):Prop where out:∃F,aN Hs (rmp bo b M::F)
instance FRM.here{K:Type}(bo:K->Value)(b:Nat)(M:List (K×Value))(Hs:List az):FRM (rmp bo b M::Hs) b bo M:=⟨Hs,aN.refl _⟩
instance(priority:=low) FRM.there(p:az)(Hs:List az)(b:Nat){K:Type}(bo:K->Value)(M:List (K×Value))[h:FRM Hs b bo M]:FRM (p::Hs) b bo M:=
 let⟨F,hr⟩:=h.out;⟨p::F,(aN.cons p hr).trans (cQ _ _ _)⟩
section
variable {P:Program}{b:Frame}{β:bS}{k:Kt}{N:Nat}{vs:List (Nat×Value)}{ds:List Deferred}{Hs:List az}{R:Ending->List az->Prop}{ops:Array Oper}{rest:List Oper}
variable {d ty:Nat}{pos:String}{af:Array Edge}{g:Option (Nat×Bool)}
theorem Bt{w:World}{K:Type}[DecidableEq K]{bo:K->Value}{bl t kt et:Nat}{M:List (K×Value)}[ht:xy P t kt et](hk:Keyed P kt bo){o:Obj}(hb:w.heap[bl]?=some o)(hm:HV bo M o)(x:K)(z:Value)
 (hz:fB M x=none->(zeroValue et).run P w=.ok z w)(ok:Bool):
 (Instr.lookup t (.map (some bl)) (bo x) ok).run P w=.ok (if ok then .tuple #[(fB M x).getD z,.bool (fB M x).isSome]else(fB M x).getD z) w:=by
 obtain⟨es,mX,rfl,h1,h2,h3⟩:=hm
 have zJ:=uA (P:=P) (w:=w) h1 hk x
 rw[uB h1]at zJ
 rw[Ci]at hz ⊢
 cases hi:M.findIdx? (·.1=x)with
 |none=>
  rw[hi]at hz zJ
  have hz:=hz U
  simp only[Option.bind_none]at zJ
  simp only[Instr.lookup,aU,bC ht.out,aC,getObj,fo,hb,hk.check,zJ,hz,bN]
  grind
 |some i=>
  have Mm:i<M.length:=(bA.1 hi).1
  have Na:M[i]?=some M[i]:=aV Mm
  rw[hi]at zJ
  simp only[Option.bind_some,Na,bH]at zJ ⊢
  simp only[Instr.lookup,aU,bC ht.out,aC,getObj,fo,hb,hk.check,zJ,bN]
  grind
theorem UC{t kt et bl:Nat}{x i:Operand}{M:List (List UInt8×Value)}{zv:Value}(y:List UInt8)[ht:xy P t kt et][hs:oL P kt][hz:wO P et zv][hf:FRM Hs bl ao M]
 (hw:aJ ops vs ⟨some d,.lookup t x i false,ty,pos,af,g⟩=some true)(hn:aH d N=true)(hx:eo vs x=some (.map (some bl)))(hi:eo vs i=some (ao y))
 (h:X P b β (some (ops,rest)) k ⟨N,(d,(fB M y).getD zv)::vs,ds⟩ Hs R):
 X P b β (some (ops,⟨some d,.lookup t x i false,ty,pos,af,g⟩::rest)) k ⟨N,vs,ds⟩ Hs R:=
 X.val U hn hw (λa w he lP=>by
  have e1:=aO he hx;have e2:=aO he hi;obtain⟨F,hF⟩:=hf.out;obtain⟨o,ho,hm⟩:=Sat.ro (lP.cd hF);simp only[execOp,e1,e2,aU,Bt (kt:=kt) (et:=et) bW ho hm y zv (λ_=>hz.run w) false,aC,bN];simp) h
end
section
variable {P:Program}{b:Frame}{β:bS}{k:Kt}{N:Nat}{vs:List (Nat×Value)}{ds:List Deferred}{Hs:List az}{R:Ending->List az->Prop}{ops:Array Oper}{rest:List Oper}
variable {d ty:Nat}{pos:String}{af:Array Edge}{g:Option (Nat×Bool)}
theorem zQ{K:Type}[DecidableEq K]{bo:K->Value}{t kt et bl ii st:Nat}{x i:Operand}{M:List (K×Value)}{F:List az}{zv:Value}(y:K)[ht:xy P t kt et][hf:FMS Hs bl bo M ii st F](hk:Keyed P kt bo)
 (hw:aJ ops vs ⟨some d,.lookup t x i false,ty,pos,af,g⟩=some true)(hn:aH d N=true)(hx:eo vs x=some (.map (some bl)))(hi:eo vs i=some (bo y))
 (hz:∀w,(zeroValue et).run P w=.ok zv w)
 (h:X P b β (some (ops,rest)) k ⟨N,(d,(fB M y).getD zv)::vs,ds⟩ Hs R):
 X P b β (some (ops,⟨some d,.lookup t x i false,ty,pos,af,g⟩::rest)) k ⟨N,vs,ds⟩ Hs R:=
 X.val U hn hw (λa w he hs=>by
  have e1:=aO he hx;have e2:=aO he hi;obtain⟨es,mX,e,g1,g2,g3,g4,g5,h2⟩:=Jx (hs.cd hf.out);simp only[execOp,e1,e2,aU,Bt (kt:=kt) (et:=et) hk (dS h2) ⟨es,mX,U,g1,g2,g3⟩ y zv (λ_=>hz w) false,aC,bN];simp) h
end
theorem Jh{P:Program}{G:bZ}{f:FuncId}{args:Array Value}{A:List az}{Q:Value->List az->Prop}{K:Type}{bo:K->Value}{bl:Nat}{M:List (K×Value)}(h:TR P G f args (rmp bo bl M::A) (cb Q))(hQ:∀v B,Q v B->rP B){x:Obj}(hx:HV bo M x):
 TR P G f args (pt bl x::A) (cb λv B=>∃B',Q v B'/\B=pt bl x::B'):=
 Pu (b:=bl) (x:=x) (h.dH (λr o ⟨o1,o2,hd,h1,h2,hp,hs⟩=>⟨o1,o2,hd,h1,h2,λr' nG=>⟨x,hp r' nG,hx⟩,hs⟩) λe B hB=>⟨B,hB,aN.refl _⟩) hQ
end Go.Sl
namespace Go.Sl
theorem JR.HV{K:Type}{bo:K->Value}{M S:List (K×Value)}{ko:Option (K×Value)}{i:Nh}(h:JR bo M S ko i):Go.Sl.HV bo M (.map i.es i.mX):=by
 obtain⟨h1,h2,h3,h4,h5,_⟩:=h;refine⟨i.es,i.mX,U,?_,h2,λe he=>Nat.lt_of_lt_of_le (h3 e he) h5⟩;exact h1
section
variable {P:Program}{b:Frame}{β:bS}{k:Kt}{E:Env}{Hs:List az}{R:Ending->List az->Prop}{cc:Option (Array Oper×List Oper)}
theorem aR6{K:Type}{bo:K->Value}(r:Nat){bl:Nat}{M S:List (K×Value)}{ko:Option (K×Value)}{F:List az}[hf:FRg Hs r bo bl M S ko F]
 (h:∀i,JR bo M S ko i->X P b β cc k E (pt bl (.map i.es i.mX)::pt r (.mapIter (some bl) i.since i.seen i.c0)::F) R):X P b β cc k E Hs R:=
 jo λw hs=>by
  obtain⟨i,hp,h2⟩:=yi (hs.cd hf.out);exact⟨_,h2.cd (cQ _ _ _),h i hp⟩
theorem aV1{K:Type}{bo:K->Value}(r bl:Nat){M S:List (K×Value)}{ko:Option (K×Value)}{i:Nh}(hp:JR bo M S ko i){F:List az}[hE:ES Hs [pt r (.mapIter (some bl) i.since i.seen i.c0),pt bl (.map i.es i.mX)] F]
 (h:X P b β cc k E (FF bo r bl M S ko::F) R):X P b β cc k E Hs R:=
 jo λw hs=>⟨_,vo i hp (hs.cd hE.out),h⟩
end
section
variable {K:Type}[DecidableEq K]
theorem rX(M:List (K×Value))(x:K)(v:Value):(gJ M x v).map (·.1)=if x∈M.map (·.1)then M.map (·.1)else M.map (·.1)++[x]:=by
 cases hi:M.findIdx? (·.1=x)with
 |none=>
  grind [lR]
 |some i=>
  have Mm:i<M.length:=(bA.1 hi).1
  have zX:M[i].1=x:=by
   grind [bA]
  rw[lQ hi,if_pos bE,eZ]
  apply dP
  grind
theorem yM(M:List (K×Value))(x y:K)(v:Value):y∈(gJ M x v).map (·.1)↔y∈M.map (·.1)\/y=x:=by
 grind [rX]
theorem sT{M:List (K×Value)}(h:(M.map (·.1)).Nodup)(x:K)(v:Value):((gJ M x v).map (·.1)).Nodup:=by
 grind [rX]
theorem qa{M:List (K×Value)}{p:Value->Prop}(h:∀y∈M,p y.2){x:K}{v:Value}(hv:p v):∀y∈gJ M x v,p y.2:=by
 intro y hy;cases hi:M.findIdx? (·.1=x)with
 |none=>
  grind [lR]
 |some i=>
  rw[lQ hi]at hy
  grind
theorem R2{M:List (K×Value)}{p:Value->Prop}(h:∀y∈M,p y.2){x:K}{z:Value}(hz:p z):p ((fB M x).getD z):=by
 unfold fB;cases hf:M.find? (·.1=x)<;>grind
end
end Go.Sl
namespace Go.Sl
variable{β:bS}{Hs:List az}{b:Frame}{R:Ending->List az->Prop}{k:Kt}{N d ty:Nat}{ds:List Deferred}{ops:Array Oper}{pos:String}{af:Array Edge}{g:Option (Nat×Bool)}{E:Env}{cc:Option (Array Oper×List Oper)}{w:World}{G:bZ}{α:Type}
section
variable{rs:List ResultVar}{x y:Operand}{a:Option Addr}{xs us l cs cap:List Value}{sz f0 t e n f c f1:Nat}{F A:List az}{qW:Array TypeId}{v:Value}{kk:IntKind}{m:Int}
section
variable{P:Program}{vs:List (Nat×Value)}{rest:List Oper}
theorem bc5{l h m:Nat}{z u:Operand}{k1 k2 k3:IntKind}{my mz mu:Int}[ht:px P t e][hz:iI P e sz](hw:aJ ops vs ⟨some d,.slice t x (some y) (some z) (some u),ty,pos,af,g⟩=some true)(hn:aH d N=true)(hx:eo vs x=some (.slice a n c))(hy:eo vs y=some (.int k1 my))(hz':eo vs z=some (.int k2 mz))(hu:eo vs u=some (.int k3 mu))(e1:my=(l:Int))(e2:mz=(h:Int))(e3:mu=(m:Int))(h1:l<=h)(h2:h<=m)(h3:m<=c)(hk:∀v,X P b β (some (ops,rest)) k ⟨N,(d,v)::vs,ds⟩ Hs R):X P b β (some (ops,⟨some d,.slice t x (some y) (some z) (some u),ty,pos,af,g⟩::rest)) k ⟨N,vs,ds⟩ Hs R:=by
 refine X.val (v:=.slice (if decide (m=l)=true then a else a.map (·.add (l*sz))) (h - l) (m - l)) U hn hw (λact w he hs=>?_) (hk _)
 have f1:=aO he hx
 have f2:=aO he hy
 have f3:=aO he hz'
 have f4:=aO he hu
 subst e1;subst e2;subst e3
 have hb:(gl true n c (some (.int k1 (l:Int))) (some (.int k2 (h:Int))) (some (.int k3 (m:Int)))).run P w=.ok (l,h,m) w:=by
  simp[gl,run_sliceBound h3,run_sliceBound h2,run_sliceBound h1]
 simp[execOp,f1,f2,f3,f4,Instr.sliceAt,Instr.slice,bC ht.out,hb,iR hz.out]
theorem Uv[hk:Kt.nU k]{Bg i j gg c2:Nat}{rs:List az}[ht:px P t e][hz:iI P e sz][T':yl P e Bg](hw:aJ ops vs ⟨some d,.call ⟨.builtin .append,#[x,y],#[t,t]⟩,ty,pos,af,g⟩=some true)(hn:aH d N=true)(hx:eo vs x=some (.slice (some ⟨gg,0,none⟩) i c))(hy:eo vs y=some (.slice (ph (some ⟨gg,0,none⟩) c j sz) (n - j) c2))[ho:FO Hs (some ⟨gg,0,none⟩) e sz n c xs rs](xG:i<=j)(Mp:j<=n)(h1:∀v∈xs,v.oneCell'=true)(h:X P b β (some (ops,rest)) k ⟨N,(d,.slice (some ⟨gg,0,none⟩) (i+(n - j)) c)::vs,ds⟩ (own e sz (some ⟨gg,0,none⟩) (i+(n - j)) c (xs.take (i*sz)++xs.drop (j*sz))::rs) R):
 X P b β (some (ops,⟨some d,.call ⟨.builtin .append,#[x,y],#[t,t]⟩,ty,pos,af,g⟩::rest)) k ⟨N,vs,ds⟩ Hs R:=
 CV U hn hw (λact w he lP=>by
  have e1:=aO he hx;have e2:=aO he hy;obtain⟨inf,hi,yo⟩:=bk.1 hz.out;subst yo;rcases dx (lP.cd ho.out)with⟨h0,_⟩|⟨g',cur,h2,h3,h6,h7,h8,h9,hs⟩
  ·cases h0
  ·cases h2;have hlen:cur.toList.length=cur.size:=nH;have Vr:(xs.drop (j*inf.size)).length=(n - j)*inf.size:=by grind [Nat.sub_mul]
   have hg:=dS hs;have hmul:∀p q:Nat,p<=q->p*inf.size<=q*inf.size:=λp q hpq=>cX _ hpq;have m1:=hmul (i+(n - j)) n av;have m2:=hmul n c h6;have m3:=hmul i n av;have Bh:∀(q:Nat) (u:Value),(xs.drop (j*inf.size))[q]?=some u->∃ad,ph (some ⟨gg,0,none⟩) c j inf.size=some ad/\w.cell? (ad.add q)=some u:=by
    grind [ph,addr_add,gj]
   obtain⟨ad,had⟩:∃ad,ph (some ⟨gg,0,none⟩) c j inf.size=some ad:=by
    grind [ph]
   have hr:=run_append_room (P:=P) (ty:=ty) w t e inf ht.out hi gg i c cur hg ad (n - j) c2 (xs.drop (j*inf.size)) Vr (λq u hq=>by
    grind) (λu hu=>h1 u (List.mem_of_mem_drop hu)) av bE
   rw[had]at e2;refine⟨_,by simp only[execOp,resolve,invoke,builtin,e1,e2,List.map_toArray,aK,ie,aU,hr,aC,bN];first|rfl|simp[hr],?_⟩;have vy:cur.toList.take (i*inf.size)=xs.take (i*inf.size):=bE;refine fK (Sat.setRow hs) ?_ av h7 ?_ ?_;all_goals grind [aD]) h
theorem Us[hk:Kt.nU k]{m c2:Nat}{zs:List Value}{rs:List az}[ht:px P t e][hz:iI P e sz][M7:TZ P e zs](hw:aJ ops vs ⟨none,.call ⟨.builtin .clear,#[x],#[t]⟩,ty,pos,af,g⟩=some true)(hx:eo vs x=some (.slice (ph a c n sz) m c2))[ho:FO Hs a e sz n c xs rs](hm:n+m<=c)(BT:zs.length=sz)(h1:∀v∈zs,v.oneCell'=true)(h:X P b β (some (ops,rest)) k ⟨N,vs,ds⟩ (own e sz a n c xs::rs) R):
 X P b β (some (ops,⟨none,.call ⟨.builtin .clear,#[x],#[t]⟩,ty,pos,af,g⟩::rest)) k ⟨N,vs,ds⟩ Hs R:=by
 intro hb
 refine X.op hw (λact w he lP=>?_) hb
 have e1:=aO he hx
 have Wv:=lP.cd ho.out
 have key:∀w',(Builtin.clear_ #[t] ty #[.slice (ph a c n sz) m c2]).run P w=.ok (.tuple #[]) w'->Sat β (own e sz a n c xs::rs) w'->∃v uv,(execOp act.eval ⟨none,.call ⟨.builtin .clear,#[x],#[t]⟩,ty,pos,af,g⟩).run P w=.ok (.value v) uv/\WL P b β ops k R rest (act.put (Oper.dst ⟨none,.call ⟨.builtin .clear,#[x],#[t]⟩,ty,pos,af,g⟩) v) uv:=by
  intro w' h2 h3;exact⟨.tuple #[],w',by simp[execOp,resolve,invoke,builtin,e1,h2],h hb _ _ he h3⟩
 by_cases Ym:m=0
 ·subst Ym;refine key w ?_ Wv;cases ph a c n sz<;>simp[Builtin.clear_,bC ht.out]
 ·rcases dx Wv with⟨rfl,rfl,rfl,_⟩|⟨gg,cur,rfl,h3,h6,h7,h8,h9,hs⟩
  ·omega
  ·have aI0:ph (some ⟨gg,0,none⟩) c n sz=some ⟨gg,n*sz,none⟩:=by
    unfold ph;rw[if_neg bB];simp[addr_add]
   obtain⟨z,Gn,YU⟩:=uz (P:=P) (w:=w) M7.out;have ZS:z.cells.size=sz:=by rw[<-BT,YU];simp
   have hzl2:(Builtin.zeroCells z.cells m).toList.length=m*sz:=by simp[size_zeroCells,ZS]
   have jD:∀v∈(Builtin.zeroCells z.cells m).toList,v.oneCell'=true:=by
    intro v hv;unfold Builtin.zeroCells at hv;simp only[Array.toList_map,bj]at hv;obtain⟨i,hi,rfl⟩:=hv;by_cases Wv:sz=0
    ·rw[ZS,Wv]at hi;simp at hi
    ·have tV:i%z.cells.size<z.cells.size:=Nat.mod_lt _ (by rw[ZS];omega);rw[getElem!_pos z.cells (i%z.cells.size) tV];refine h1 _ ?_;have h11:z.cells[i%z.cells.size]∈z.cells:=Array.getElem_mem tV;have h12:∀v,v∈z.cells->v∈zs:=λv hv=>by rw[YU]at hv;simpa using hv
     exact h12 _ h11
   have mm:n*sz+m*sz<=cur.size:=by
    rw[<-fP];exact aj (cX _ hm) h8
   have iz:=run_storeCells_at P gg (n*sz) e (Builtin.zeroCells z.cells m).toList 0 cur w (dS hs) (by rw[hzl2];omega) jD;simp only[Nat.add_zero]at iz;rw[aI0]at key;refine key (w.setRow gg (cur.toList.take (n*sz)++(Builtin.zeroCells z.cells m).toList++cur.toList.drop (n*sz+(Builtin.zeroCells z.cells m).toList.length)).toArray) ?_ ?_
   ·obtain⟨m',rfl⟩:∃m',m=m'+1:=⟨m - 1,by omega⟩;simp[Builtin.clear_,bC ht.out,Gn,iz]
   ·have hlen:cur.toList.length=cur.size:=by simp
    have e3:(cur.toList.take (n*sz)).length=n*sz:=by rw[cB,hlen];omega
    refine fK (Sat.setRow hs) h3 h6 h7 ?_ ?_
    ·simp only[dC,aG,cB,List.length_drop,hlen,hzl2];rw[Nat.min_eq_left av];omega
    ·show((cur.toList.take (n*sz)++(Builtin.zeroCells z.cells m).toList)++cur.toList.drop (n*sz+(Builtin.zeroCells z.cells m).toList.length)).take (n*sz)=xs;rw[bT,List.take_append_of_le_length (by rw[e3];exact ar _),List.take_take,Nat.min_self,h9]
end
abbrev WB(α:Type):=α×Option Addr×Nat
def dz{α:Type}(data:α->List UInt8)(q:List (WB α)):az:=
 ro λr=>∀x∈q,(data x.1).length<=x.2.2/\(x.2.1=none->(data x.1).length=0/\x.2.2=0)/\vW RB 1 x.2.1 (data x.1) r
def RD{α:Type}(data:α->List UInt8)(bo:WB α->List Value):Rp α:=
 ⟨λr l x=>∃a c,l=bo (x,a,c)/\((data x).length<=c/\(a=none->(data x).length=0/\c=0)/\vW RB 1 a (data x) r),λhr ⟨a,c,h1,h2,h3,h4⟩=>⟨a,c,h1,h2,h3,h4.mono hr⟩⟩
class P1(Hs:List az){α:Type}(data:α->List UInt8)(q:List (WB α)):Prop where out:∃F,aN Hs (dz data q::F)
instance P1.here{α:Type}(data:α->List UInt8)(q:List (WB α))(Hs:List az):P1 (dz data q::Hs) data q:=⟨Hs,aN.refl _⟩
instance(priority:=low) P1.there(p:az)(Hs:List az){α:Type}(data:α->List UInt8)(q:List (WB α))[h:P1 Hs data q]:P1 (p::Hs) data q:=
 let⟨F,hr⟩:=h.out;⟨p::F,(aN.cons p hr).trans (cQ _ _ _)⟩
section
variable{P:Program}
variable{data:α->List UInt8}{bo:WB α->List Value}{sz:Nat}
theorem oI(q:List (WB α))(x:WB α)(hx:x∈q)[hf:P1 Hs data q]
 (h:(data x.1).length<=x.2.2->(x.2.1=none->(data x.1).length=0/\x.2.2=0)->X P b β cc k E (bV RB 1 x.2.1 (data x.1)::Hs) R):X P b β cc k E Hs R:=by
 obtain⟨F,hF⟩:=hf.out
 refine jo λw hs=>?_
 have h1:=Sat.ro (hs.cd hF) x hx
 refine⟨_,hs.cd (il (q:=Go.Sl.vW RB 1 x.2.1 (data x.1)) hF (λr hr=>(hr x hx).2.2)),h h1.1 h1.2.1⟩
theorem rK(q q':List (WB α))(hq:∀x∈q',x∈q)[hf:P1 Hs data q](h:X P b β cc k E (dz data q'::Hs) R):X P b β cc k E Hs R:=by
 obtain⟨F,hF⟩:=hf.out;exact X.cd (il hF λr hr x hx=>hr x (hq x hx)) h
theorem Pv(data:α->List UInt8)(h:X P b β cc k E (dz data []::Hs) R):X P b β cc k E Hs R:=
 X.cd (Hs':=dz data []::Hs) (λ_ o hs=>⟨fL,o,cR _,cJ _,.refl _,λ_ _ x hx=>ua,hs⟩) h
theorem Pp(q:List (WB α))(y:WB α)(h1:(data y.1).length<=y.2.2)(h2:y.2.1=none->(data y.1).length=0/\y.2.2=0)[hf:P1 Hs data q][hs:zI Hs y.2.1 RB 1 (data y.1)]
 (h:X P b β cc k E (dz data (y::q)::Hs) R):X P b β cc k E Hs R:=by
 obtain⟨F,hF⟩:=hf.out
 obtain⟨F2,hF2⟩:=hs.out
 refine X.cd ?_ h
 intro r o hh
 obtain⟨o1,o2,_,_,_,kL,_⟩:=hF r o hh
 obtain⟨o3,o4,_,_,_,tK,_⟩:=hF2 r o hh
 refine⟨fL,o,cR _,cJ _,.refl _,λr' nG x hx=>?_,hh⟩
 rcases bK.1 hx with rfl|hx
 ·exact⟨h1,h2,tK r' nG⟩
 ·exact kL r' nG x hx
theorem A9(q q2:List (WB α))[hf:P1 Hs data q][hs:P1 Hs data q2](h:X P b β cc k E (dz data (q++q2)::Hs) R):X P b β cc k E Hs R:=by
 obtain⟨F,hF⟩:=hf.out;obtain⟨F2,hF2⟩:=hs.out;refine X.cd ?_ h;intro r o hh;obtain⟨o1,o2,_,_,_,kL,_⟩:=hF r o hh;obtain⟨o3,o4,_,_,_,tK,_⟩:=hF2 r o hh;exact aQ8
theorem bc8(data:α->List UInt8)(bo:WB α->List Value)(a:Option Addr){q:List (WB α)}[hf:zI Hs a (bp bo) sz q][hs:P1 Hs data q]
 (h:X P b β cc k E (bV (RD data bo) sz a (q.map (·.1))::Hs) R):X P b β cc k E Hs R:=by
 obtain⟨F,hF⟩:=hf.out
 obtain⟨F2,hF2⟩:=hs.out
 refine X.cd ?_ h
 intro r o hh
 obtain⟨o1,o2,_,_,_,kL,_⟩:=hF r o hh
 obtain⟨o3,o4,_,_,_,tK,_⟩:=hF2 r o hh
 refine⟨fL,o,cR _,cJ _,.refl _,λr' nG=>?_,hh⟩
 rcases kL r' nG with h1|⟨bl,o5,h1,h2⟩
 ·exact .inl (by rw[h1];rfl)
 ·refine .inr ⟨bl,o5,h1,λi x hx=>?_⟩;rw[dO]at hx;obtain⟨y,hy,rfl⟩:=bk.1 hx;obtain⟨l,h3,h4,h5⟩:=h2 i y hy;exact⟨l,h3,h4,y.2.1,y.2.2,h5,tK r' nG y (List.mem_of_getElem? hy)⟩
end
section
variable{P:Program}{vs:List (Nat×Value)}{rest:List Oper}
theorem UP{j:Nat}{i:Operand}[ht:Ug P t n e][hz:iI P e sz][ha:TA P e true](hw:aJ ops vs ⟨some d,.index t x i,ty,pos,af,g⟩=some true)(hn:aH d N=true)(hx:eo vs x=some (.agg cs.toArray))(hi:eo vs i=some (.int kk m))(hm:m=(j:Int))(hj:j<n)(hl:JC (j*sz) sz cs=some l)(h:X P b β (some (ops,rest)) k ⟨N,(d,.agg l.toArray)::vs,ds⟩ Hs R):
 X P b β (some (ops,⟨some d,.index t x i,ty,pos,af,g⟩::rest)) k ⟨N,vs,ds⟩ Hs R:=
 X.val U hn hw (λact w he hs=>by
  have e1:=aO he hx;have e2:=aO he hi;subst hm;obtain⟨h7,h8⟩:=Ch hl;have e3:(cs.drop (j*sz)).take sz=l:=by
   apply dP
   grind
  simp[execOp,e1,e2,Instr.index,asIntOf,bC ht.out,iR hz.out,hj,part,iY ha.out,List.extract,e3]) h
theorem aT4{j:Nat}{i:Operand}[ht:Ug P t n e][hz:iI P e sz][ha:TA P e false](hw:aJ ops vs ⟨some d,.index t x i,ty,pos,af,g⟩=some true)(hn:aH d N=true)(hx:eo vs x=some (.agg cs.toArray))(hi:eo vs i=some (.int kk m))(hm:m=(j:Int))(hj:j<n)(hl:cs[j*sz]?=some v)(h:X P b β (some (ops,rest)) k ⟨N,(d,v)::vs,ds⟩ Hs R):
 X P b β (some (ops,⟨some d,.index t x i,ty,pos,af,g⟩::rest)) k ⟨N,vs,ds⟩ Hs R:=
 X.val U hn hw (λact w he hs=>by
  have e1:=aO he hx;have e2:=aO he hi;subst hm;have e3:cs.toArray[j*sz]?=some v:=bE;have e4:=e3;simp only[List.getElem?_toArray]at e4;simp[execOp,e1,e2,Instr.index,asIntOf,bC ht.out,iR hz.out,hj,part,iY ha.out,e4]) h
theorem CJ{l h:Nat}{low high:Option Operand}[ht:px P t e][hz:iI P e sz](hw:aJ ops vs ⟨some d,.slice t x low high none,ty,pos,af,g⟩=some true)(hn:aH d N=true)(hx:eo vs x=some (.slice a n c))(hl:Bd vs 0 low l)(hh:Bd vs n high h)(h1:l<=h)(h2:h<=c)(hk:X P b β (some (ops,rest)) k ⟨N,(d,.slice (ph a c l sz) (h - l) (c - l))::vs,ds⟩ Hs R):X P b β (some (ops,⟨some d,.slice t x low high none,ty,pos,af,g⟩::rest)) k ⟨N,vs,ds⟩ Hs R:=by
 refine X.val (v:=.slice (ph a c l sz) (h - l) (c - l)) U hn hw (λact w he hs=>?_) hk
 have e1:=aO he hx
 have e3:=nV (P:=P) (w:=w) he (isS:=true) (cap:=c) hl hh h1 h2
 simp[execOp,e1,Instr.sliceAt,Instr.slice,bC ht.out,e3,iR hz.out,ph]
end
theorem aY0(a:Option Addr)(c sz:Nat):ph a c 0 sz=a:=by
 unfold ph;split
 ·rfl
 ·rw[Nat.zero_mul];cases a<;>grind [Addr.add]
theorem ah2{α:Type}{bo:α->List Value}(kF:∀x,(bo x).length=sz)(xs:List α)(j i:Nat)(h:j<xs.length)(hi:i<sz)(y:α)(v:Value)(hy:bo y=(bo xs[j]).set i v):
 (xs.flatMap bo).take (j*sz+i)++[v]++(xs.flatMap bo).drop (j*sz+i+1)=(xs.set j y).flatMap bo:=by
 rw[<-Ww kF xs j h y,hy]
 have hl:=wV kF xs
 have h1:(j+1)*sz<=xs.length*sz:=cX _ h
 have h2:(j+1)*sz=j*sz+sz:=bE
 have Jd:=P0 kF xs j h
 have Gk:=kF xs[j]
 rw[gB,Gk]
 have e0:(xs.flatMap bo).drop (j*sz)=bo xs[j]++(xs.flatMap bo).drop (j*sz+sz):=by
  grind [cP,List.drop_drop]
 have e1:(xs.flatMap bo).take (j*sz+i)=(xs.flatMap bo).take (j*sz)++(bo xs[j]).take i:=by
  rw[List.take_add,e0,List.take_append_of_le_length av]
 have e2:(xs.flatMap bo).drop (j*sz+i+1)=(bo xs[j]).drop (i+1)++(xs.flatMap bo).drop (j*sz+sz):=by
  rw[Nat.add_assoc,<-List.drop_drop,e0,List.drop_append_of_le_length av]
 grind [List.set_eq_take_append_cons_drop]
section
variable{P:Program}{vs:List (Nat×Value)}{rest:List Oper}
theorem HN[hk:Kt.nU k]{α:Type}{bo:α->List Value}{l:List α}(j i:Nat)(y:α){bl o:Nat}{z:Operand}{rs:List az}(hl:∀h:j<l.length,bo y=(bo l[j]).set i v)[hz:iI P t 1](hw:aJ ops vs ⟨none,.store t x z,ty,pos,af,g⟩=some true)(hx:eo vs x=some (.pointer (some ⟨bl,o,none⟩)))(hy:eo vs z=some v)[hf:FO Hs (some ⟨bl,0,none⟩) e sz n c xs rs](HZ:xs=l.flatMap bo)(kF:∀x,(bo x).length=sz)(ho:o=j*sz+i)(hj:j<l.length)(hi:i<sz)(hc:cl v=some [v])(h2:mB [v]=true)(h:X P b β (some (ops,rest)) k ⟨N,vs,ds⟩ (own e sz (some ⟨bl,0,none⟩) n c ((l.set j y).flatMap bo)::rs) R):X P b β (some (ops,⟨none,.store t x z,ty,pos,af,g⟩::rest)) k ⟨N,vs,ds⟩ Hs R:=by
 subst HZ ho
 have Fj:=wV kF l
 have h1:(j+1)*sz<=l.length*sz:=cX _ hj
 have h3:(j+1)*sz=j*sz+sz:=bE
 refine Pe hw hx hy hc U h2 bE ?_
 rw[List.length_singleton,ah2 kF l j i hj hi y v (hl hj)]
 exact h
theorem bd5{t':Nat}{m n:Bool}[ht:aV3 P t](hw:aJ ops vs ⟨some d,.binOp .neq t x y t',ty,pos,af,g⟩=some true)(hn:aH d N=true)(hx:eo vs x=some (.bool m))(hy:eo vs y=some (.bool n))(h:X P b β (some (ops,rest)) k ⟨N,(d,.bool (m !=n))::vs,ds⟩ Hs R):X P b β (some (ops,⟨some d,.binOp .neq t x y t',ty,pos,af,g⟩::rest)) k ⟨N,vs,ds⟩ Hs R:=
 X.val U hn hw (λa w he _=>by
  have e1:=aO he hx;have e2:=aO he hy;obtain⟨n',ZW⟩:=sJ;simp[execOp,e1,e2,eqGuard,binOp,ZW,fC,bC ht.out];grind) h
theorem UX{parts:List (Nat×Operand)}{us:List (Nat×Value)}{zs:List Value}[hf:Ug P t n e][hz:TZ P t zs][xz:iI P e sz](hw:aJ ops vs ⟨some d,.build t parts.toArray,ty,pos,af,g⟩=some true)(hn:aH d N=true)(hx:vp vs parts=some us)(hl:Gi (λi=>some (i*sz,sz)) zs us=some l)(h:X P b β (some (ops,rest)) k ⟨N,(d,.agg l.toArray)::vs,ds⟩ Hs R):X P b β (some (ops,⟨some d,.build t parts.toArray,ty,pos,af,g⟩::rest)) k ⟨N,vs,ds⟩ Hs R:=
 X.val U hn hw (λa w he _=>by
  have e1:=sH he hx;obtain⟨z,h3,h4⟩:=uz (P:=P) (w:=w) hz.out;have h5:=yq hl;have e2:parts.toArray.map (fun(i,x)=>(i,a.eval x))=us.toArray:=bE;simp only[execOp,e2,Instr.build,aU,h3,aC,bN,bC hf.out,iR xz.out,h4,h5]) h
end
section
variable{P:Program}
theorem CT{α γ:Type}{data:α->List UInt8}(aE0:γ->List UInt8)(q:List (WB α))(q':List (WB γ))(hq:∀y∈q',∃x∈q,∃n,y.2=x.2/\aE0 y.1=(data x.1).take n)[hf:P1 Hs data q](h:X P b β cc k E (dz aE0 q'::Hs) R):X P b β cc k E Hs R:=by
 obtain⟨F,hF⟩:=hf.out
 refine X.cd (il hF λr hr y hy=>?_) h
 obtain⟨x,hx,n,h1,h2⟩:=hq y hy
 obtain⟨h3,h4,h5⟩:=hr x hx
 rw[h1,h2]
 have hle:((data x.1).take n).length<=(data x.1).length:=bE
 refine⟨by omega,λhh=>⟨by grind,(h4 hh).2⟩,?_⟩
 by_cases hn:n<=(data x.1).length
 ·have:=vW.cut (l:=0) (n:=n) false h5 av bE
  rw[if_neg de,fm,Nat.zero_mul]at this
  have e:x.2.1.map (·.add 0)=x.2.1:=by cases x.2.1<;>simp[Addr.add]
  grind
 grind [aD]
end
class EM(Hs A:List az)(F:outParam (List az)):Prop where out:aN Hs (A++F)
instance EM.nil(Hs:List az):EM Hs [] Hs:=⟨aN.refl _⟩
theorem EM.iL{Hs r:List az}{p:Hp->Prop}(h1:aN Hs (ro p::r))(h2:aN Hs (A++F)):aN Hs (ro p::A++F):=by
 intro rr o hs;obtain⟨o1,o2,_,_,_,hp,_⟩:=h1 rr o hs;exact⟨fL,o,cR _,cJ _,.refl _,hp,h2 rr o hs⟩
instance(priority:=2000) EM.bV{α:Type}(Hs A r F:List az)(Re:Rp α)(sz:Nat)(a:Option Addr)(xs:List α)[h1:FP Hs (bV Re sz a xs) r][h2:EM Hs A F]:EM Hs (bV Re sz a xs::A) F:=⟨EM.iL h1.out h2.out⟩
instance(priority:=2000) EM.rob{α:Type}(Hs A r F:List az)(data:α->List UInt8)(q:List (WB α))[h1:FP Hs (dz data q) r][h2:EM Hs A F]:EM Hs (dz data q::A) F:=⟨EM.iL h1.out h2.out⟩
instance(priority:=500) EM.cons(Hs Hs':List az)(p:az)(A F:List az)[h1:FP Hs p Hs'][h2:EM Hs' A F]:EM Hs (p::A) F:=⟨h1.out.trans (aN.cons p h2.out)⟩
theorem iv{Hs:List az}[h:EM Hs A F]:aN Hs (A++F):=h.out
instance EK.rob{α:Type}(Hs A r:List az)(data:α->List UInt8)(q:List (WB α))[h1:FP Hs (dz data q) r][h2:EK Hs A]:EK Hs (dz data q::A):=
 EK.ro Hs A r _ (h1:=h1)
@[reducible] def pe(v:Value):PanicEntry:={v,recovered:=false}
def MR{ε α:Type}(pv:ε->Value)(r:Except ε α)(Q:α->Value->List az->Prop):Ending->List az->Prop
 |.returned v,B=>∃x,r=.ok x/\Q x v B
 |.panicked ch,B=>∃e,r=.error e/\ch=[pe (pv e)]/\B=[]
 |.outgrown,_=>False
section
variable{P:Program}{vs:List (Nat×Value)}{rest:List Oper}
theorem aA8(l9:mi b f0)[hf:FR P f0 rs](hb:b.kind=.normal){ch:List PanicEntry}{a:Act}{w:World}{W:Nat->Prop}(hd:a.defers=[])(h:ux β R (.panicked ch) w):PD P b β W R ch a w:=by
 obtain⟨fn,h1,_⟩:=hf.out;intro a' _ hd' _;exact aD7 l9.ro FQ hb (hd'.trans hd) h
theorem dU[hk:Kt.nU k]{G:bZ}(hG:G.on β)(l9:mi b f0)[hf:FR P f0 rs]{xs:List Operand}{ε α:Type}{pv:ε->Value}{r:Except ε α}{Q:α->Value->List az->Prop}(hT:TR P G f us.toArray A (MR pv r Q))[rH:CF P f](hw:aJ ops vs ⟨some d,.call ⟨.value (.func f),xs.toArray,qW⟩,ty,pos,af,g⟩=some true)(hn:aH d N=true)(hx:nk vs xs=some us)(hA:aN Hs (A++F))(hp:∀e,r=.error e->R (.panicked [pe (pv e)]) [])(h:∀x,r=.ok x->∀v B,Q x v B->X P b β (some (ops,rest)) k ⟨N,(d,v)::vs,[]⟩ (B++F) R):
 X P b β (some (ops,⟨some d,.call ⟨.value (.func f),xs.toArray,qW⟩,ty,pos,af,g⟩::rest)) k ⟨N,vs,[]⟩ Hs R:=by
 intro hb
 refine yj hG rH hT hw hn (λa he w=>?_) hA ?_ (λ_ h=>h) ?_ hb
 ·have h1:=kO (E:=⟨N,vs,[]⟩) he hx
  have h2:xs.toArray.map a.eval=us.toArray:=aY1
  have h3:a.eval (.func f)=.func (.func f) #[] #[]:=U
  grind [resolve,Deferred.ofValue,invoke]
 ·rintro ch B ⟨e,hr,rfl,rfl⟩ a w he hs;exact UA (aA8 l9 hb he.2.1 ⟨[],hp e hr,hs.cd (aN.nil _)⟩)
 ·exact ZB
theorem Uo[hk:Kt.nU k](l9:mi b f0)[hf:FR P f0 rs]{dst:Option Nat}(hw:aJ ops vs ⟨dst,.panic x,ty,pos,af,g⟩=some true)(hx:eo vs x=some v)(hv:∀w,(Instr.panic v).run P w=.halt (.panic v) w)(h:R (.panicked [pe v]) []):
 X P b β (some (ops,⟨dst,.panic x,ty,pos,af,g⟩::rest)) k ⟨N,vs,[]⟩ Hs R:=by
 intro hb a w he hs
 have e1:=aO he hx
 have hr:(execOp a.eval ⟨dst,.panic x,ty,pos,af,g⟩).run P w=.halt (.panic v) w:=by
  simp[execOp,e1,hv]
 exact aV2 (kD (E:=⟨N,vs,[]⟩) he hw) hr (UA (aA8 l9 hb he.2.1 ⟨[],h,hs.cd (aN.nil _)⟩))
end
section
variable{P:Program}{vs:List (Nat×Value)}{rest:List Oper}
def TD0(P:Program)(G:bZ)(f:FuncId)(args:Array Value)(A B:List az):Prop:=
 ∀(β:bS) (w:World),G.on β->Sat β A w->CallsD P f args .returning w λe u' w'=>u'=.returning/\(∃v,e=.returned v)/\Sat β B w'
def TP(P:Program)(G:bZ)(f:FuncId)(args:Array Value)(pv:Value)(A B:List az):Prop:=
 ∀(β:bS) (w:World),G.on β->Sat β A w->CallsD P f args (.panicking [pe pv]) w λe u' w'=>u'=.panicking [{v:=pv,recovered:=true}]/\(∃v,e=.returned v)/\Sat β B w'
theorem aS8{k:List Item}(l9:mi b f)[hf:FR P f rs][rH:CF P f1]{B:List az}{G:bZ}(hG:G.on β)(hT:TD0 P G f1 (us++cap).toArray A B)(hE:aN Hs (A++F))(hl:jK P ⟨N,vs,[⟨.fn (.func f1) cap.toArray,us.toArray⟩]⟩ (B++F) rs l)(h:∃C,R (.returned (lx l)) C/\aN (B++F) C):
 X P b β none (.it (.code .ret::k)) ⟨N,vs,[⟨.fn (.func f1) cap.toArray,us.toArray⟩]⟩ Hs R:=by
 intro hb
 obtain⟨fn,h1,rfl⟩:=hf.out
 obtain⟨C,h2,h3⟩:=h
 refine SR.a42 l9.ro FQ hb λa w he hs=>?_
 obtain⟨β',hβ,vV,nL⟩:=jH (hs.cd hE)
 have hc:=hT β' w (G.mono hβ hG) vV
 refine⟨by simp,.func f1,cap.toArray,f1,(us++cap).toArray,U,?_,?_⟩
 ·have:=rH.out (us++cap).toArray w
  grind [invoke]
 ·exact bs7
theorem Pf{k:List Item}(l9:mi b f)[hf:FR P f rs][rH:CF P f1]{G:bZ}(hG:G.on β)(hT:TD0 P G f1 (us++cap).toArray [] [])(hl:jK P ⟨N,vs,[⟨.fn (.func f1) cap.toArray,us.toArray⟩]⟩ Hs rs l)(h:∃C,R (.returned (lx l)) C/\aN Hs C):
 X P b β none (.it (.code .ret::k)) ⟨N,vs,[⟨.fn (.func f1) cap.toArray,us.toArray⟩]⟩ Hs R:=aS8 (A:=[]) (B:=[]) (F:=Hs) l9 hG hT (aN.refl _) hl h
theorem uk{k:List Item}{G:bZ}(hG:G.on β)(l9:mi b f0)[hf:FR P f0 rs][hcf1:CF P f1]{us1 cap1:List Value}{xs:List Operand}{ε α:Type}{pv:ε->Value}{r:Except ε α}{Q:α->Value->List az->Prop}(hT:TR P G f us.toArray A (MR pv r Q))[rH:CF P f](hw:aJ ops vs ⟨some d,.call ⟨.value (.func f),xs.toArray,qW⟩,ty,pos,af,g⟩=some true)(hn:aH d N=true)(hx:nk vs xs=some us)(hA:aN Hs (A++F))(hp:∀e,r=.error e->∃A1 B1 F1 l C,TP P G f1 (us1++cap1).toArray (pv e) A1 B1/\aN F (A1++F1)/\jK P ⟨N,vs,[⟨.fn (.func f1) cap1.toArray,us1.toArray⟩]⟩ B1 rs l/\R (.returned (lx l)) C/\aN B1 C)(h:∀x,r=.ok x->∀v B,Q x v B->X P b β (some (ops,rest)) (.it k) ⟨N,(d,v)::vs,[⟨.fn (.func f1) cap1.toArray,us1.toArray⟩]⟩ (B++F) R):
 X P b β (some (ops,⟨some d,.call ⟨.value (.func f),xs.toArray,qW⟩,ty,pos,af,g⟩::rest)) (.it k) ⟨N,vs,[⟨.fn (.func f1) cap1.toArray,us1.toArray⟩]⟩ Hs R:=by
 intro hb
 refine yj hG rH hT hw hn (λa he w=>?_) hA ?_ (λ_ h=>h) ?_ hb
 ·have h1:=kO (E:=⟨N,vs,[⟨.fn (.func f1) cap1.toArray,us1.toArray⟩]⟩) he hx
  have h2:xs.toArray.map a.eval=us.toArray:=aY1
  have h3:a.eval (.func f)=.func (.func f) #[] #[]:=U
  grind [resolve,Deferred.ofValue,invoke]
 ·rintro ch B ⟨e,hr,rfl,rfl⟩ a w he hs;obtain⟨A1,B1,F1,l,C,h1,h2,h3,h4,h5⟩:=hp e hr;obtain⟨fn,g1,rfl⟩:=hf.out;have Wv:Sat β F w:=hs;obtain⟨β',hβ,vV,nL⟩:=jH (Wv.cd h2);have hc:=h1 β' w (G.mono hβ hG) vV;refine rm l9.ro (by rw[l9.fn];exact g1) hb ?_;rw[he.2.1];refine⟨by simp,.func f1,cap1.toArray,f1,(us1++cap1).toArray,U,?_,?_⟩
  ·have:=hcf1.out (us1++cap1).toArray w
   grind [invoke]
  ·refine hc.mono ?_;rintro e u' w' ⟨rfl,⟨v,rfl⟩,zU⟩;have h6:Sat β B1 w':=(nL B1 w' zU).cd (fN _ _);exact⟨_,mO (h3 β a w' he h6),⟨C,h4,h6.cd h5⟩⟩
 ·exact ZB
end
section
variable{P:Program}
theorem CG{E:Env}{cc:Option (Array Oper×List Oper)}(m:Nat)[hf:FO Hs a e sz n c xs F](hm:m<=n)(h:X P b β cc k E (own e sz a m c (xs.take (m*sz))::F) R):X P b β cc k E Hs R:=
 jo λw hs=>by
  refine⟨_,?_,h⟩
  rcases dx (hs.cd hf.out)with⟨rfl,h0,rfl,rfl,ug⟩|⟨g,cur,rfl,h3,h6,h7,h8,h9,ug⟩
  ·subst h0
   grind [iZ]
  grind [cX,fK]
end
end
section
variable{F rs A2 A:List az}{x y:Operand}{cap xs cs:List Value}{l:List UInt8}{t n e sz f0 f:Nat}{ps:List Nat}{bD4:Code}(i:Nat)(a:Option Addr)
section
variable{P:Program}{vs:List (Nat×Value)}{rest:List Oper}
theorem aT7{op:BinOp}{t' kt et:Nat}{p:Option Nat}{v:Value}[ht:xy P t kt et](hw:aJ ops vs ⟨some d,.binOp op t x y t',ty,pos,af,g⟩=some true)(hn:aH d N=true)(hx:eo vs x=some (.map p))(hy:eo vs y=some (.map none))(hv:(match op with|.eql=>some (jZ p.isNone)|.neq=>some (jZ p.isSome)|_=>none)=some v)(h:X P b β (some (ops,rest)) k ⟨N,(d,v)::vs,ds⟩ Hs R):X P b β (some (ops,⟨some d,.binOp op t x y t',ty,pos,af,g⟩::rest)) k ⟨N,vs,ds⟩ Hs R:=
 X.val U hn hw (λa w he _=>by
  have e1:=aO he hx;have e2:=aO he hy;cases op<;>simp only[fF,reduceCtorEq]at hv;all_goals
   subst hv
   obtain⟨n,hn⟩:=sJ
   cases p<;>simp[execOp,e1,e2,eqGuard,binOp,hn,fC,bC ht.out]) h
theorem aa5{kt et:Nat}[ht:xy P t kt et](hw:aJ ops vs ⟨some d,.call ⟨.builtin .len,#[x],#[t]⟩,ty,pos,af,g⟩=some true)(hn:aH d N=true)(hx:eo vs x=some (.map none))(h:X P b β (some (ops,rest)) k ⟨N,(d,.int .i64 0)::vs,ds⟩ Hs R):X P b β (some (ops,⟨some d,.call ⟨.builtin .len,#[x],#[t]⟩,ty,pos,af,g⟩::rest)) k ⟨N,vs,ds⟩ Hs R:=
 X.val U hn hw (λa w he hs=>by
  have e1:=aO he hx;simp[execOp,resolve,invoke,builtin,e1,Builtin.len_,bC ht.out];rfl) h
end
section
variable{P:Program}
variable(f:α->az)
theorem P2(q:List α)(i:Nat)(h:i<q.length):(q.map f).Perm (f q[i]::(q.eraseIdx i).map f):=by
 grind [List.eraseIdx_eq_take_drop_succ,aP,cP,ee]
theorem ab2(q:List α)(i:Nat)(h:i<q.length)[hf:FP Hs (cV (q.map f)) F](hx:X P b β cc k E (f q[i]::cV ((q.eraseIdx i).map f)::F) R):X P b β cc k E Hs R:=
 X.cd (hf.out.trans ((gG _ F).trans ((iQ (di (P2 f q i h)) F).trans (aN.cons _ (gp _ F))))) hx
theorem Uy(q:List α)(i:Nat)(h:i<q.length)(y:α)[hE:ES Hs [f y,cV ((q.eraseIdx i).map f)] F](hx:X P b β cc k E (cV ((q.set i y).map f)::F) R):X P b β cc k E Hs R:=by
 refine X.cd (hE.out.trans ?_) hx
 refine(aN.cons _ (gG _ F)).trans ?_
 show aN ((f y::(q.eraseIdx i).map f)++F) _
 refine aN.trans (iQ (di (b:=(q.set i y).map f) ?_) F) (gp _ F)
 have h2:=P2 f (q.set i y) i BU
 rw[List.getElem_set_self,List.eraseIdx_set_eq]at h2
 exact h2.symm
theorem be0(q:List α)(y:α)[hE:ES Hs [f y,cV (q.map f)] F](hx:X P b β cc k E (cV ((q++[y]).map f)::F) R):X P b β cc k E Hs R:=by
 refine X.cd (hE.out.trans ?_) hx
 refine(aN.cons _ (gG _ F)).trans ?_
 show aN ((f y::q.map f)++F) _
 refine aN.trans (iQ (di (b:=(q++[y]).map f) ?_) F) (gp _ F)
 grind [cG]
end
section
variable{P:Program}
theorem aU0{α:Type}{bo:α->List Value}(l:List α){c:Nat}[hf:FO Hs a e sz n c xs F](hx:xs=l.flatMap bo)(hn:n=l.length)(h:X P b β cc k E (own e sz a l.length c (l.flatMap bo)::F) R):X P b β cc k E Hs R:=by
 subst hx hn;exact X.cd hf.out h
end
def ITS(P:Program)(G:bZ)(f:FuncId)(cap:List Value)(A A2:List az){α:Type}(bo:α->List Value)(xs:List α):Prop:=
 ∀(l:Nat) (I:List α->List az) (J:List az),
  (∀pre x post,xs=pre++x::post->YT P G l (bo x).toArray (I pre) (cb (YQ (I (pre++[x])) J)))->
  TR P G f (.func (.yield l) #[] #[]::cap).toArray (A++I []) (cb λ_ B=>B=A2++I xs\/∃A3,B=A3++J)
theorem ITS.mk{P:Program}{G:bZ}{f:FuncId}{α:Type}{bo:α->List Value}{xs:List α}(h:∀(l:Nat) (I:List α->az) (J:az),(∀pre x post,xs=pre++x::post->YT P G l (bo x).toArray [I pre] (cb (YQ [I (pre++[x])] [J])))->
  TR P G f (.func (.yield l) #[] #[]::cap).toArray (A++[I []]) (cb λ_ B=>B=A2++[I xs]\/∃A3,B=A3++[J])):ITS P G f cap A A2 bo xs:=by
 intro l I J hY
 refine(h l (λp=>cV (I p)) (cV J) λpre x post hx=>(hY pre x post hx).dH (eW _) ?_).dH (mg A (gH _)) ?_
 ·exact bo1
 ·rintro e B hB;cases e with
  |panicked ch=>exact hB.elim
  |outgrown=>exact hB.elim
  |returned v=>
   rcases hB with rfl|⟨A3,rfl⟩
   ·exact⟨_,.inl U,mg A2 (eW _)⟩
   ·exact⟨_,.inr ⟨A3,U⟩,mg A3 (eW _)⟩
section
variable{P:Program}{vs:List (Nat×Value)}
theorem QY{G:bZ}(hG:G.on β)(l9:mi b f0)[rH:CF P f]{g:Operand}{bd:Code}{k:List Item}{α:Type}{bo:α->List Value}{xs:List α}(hit:ITS P G f cap A A2 bo xs)(hg:eo vs g=some (.func (.func f) #[] cap.toArray))(I:List α->List az)(J:List az)(hA:aN Hs (A++I []++F))(hl:∀x,ps.length=(bo x).length)(hp:∀p∈ps,aH p N=true)(body:∀(b':Frame) (β':bS) (l:Nat) (r:Loop) (pre:List α) (x:α) (post:List α),xs=pre++x::post->b'.roundOf=some l->G.on β'->r.state=.ready->
  X P b' β' none (.it [.code bD4,.beginRound,.code bd]) ⟨N,yx ps (bo x) vs,[]⟩ (pt l (.loop r)::I pre) (cb (YQ (pt l (.loop {r with state:=.ready,pending:=none})::I (pre++[x])) (pt l (.loop {r with state:=.done,pending:=some .ret})::J))))(done:∀D,X P b β none (.it k) ⟨N,vs,⟨.collected D,#[]⟩::ds⟩ (pt D (.deferred (some []))::(A2++I xs++F)) R)(stop:∀D A3,XR P b β ⟨N,vs,⟨.collected D,#[]⟩::ds⟩ (pt D (.deferred (some []))::(A3++J++F)) R):
 X P b β none (.it (.code (.rangeFunc g ps.toArray bD4 bd)::k)) ⟨N,vs,ds⟩ Hs R:=by
 intro hb a w he hs
 refine ui l9.ro (wpIn_rangeFunc λfn _=>?_)
 obtain⟨rec,qL⟩:∃rec:Loop,rec={state:=.ready,pending:=none,fn:=fn,tmps:=a.tmps,params:=ps.toArray,assign:=bD4,body:=bd,defers:=w.heap.size}:=⟨_,U⟩
 have Bi:Sat β (pt (w.alloc (.deferred (some []))).heap.size (.loop rec)::pt w.heap.size (.deferred (some []))::Hs) ((w.alloc (.deferred (some []))).alloc (.loop rec)):=Sat.jP (Sat.jP hs _) _
 rw[World.size_alloc]at Bi
 have eg:a.eval g=.func (.func f) #[] cap.toArray:=by grind [aO]
 have hen:=run_enterLoop_outer (P:=P) (w:=w) fn a.tmps ps.toArray bD4 bd
 rw[<-qL]at hen
 refine⟨w.heap.size+1,[{target:=.collected w.heap.size,args:=#[]}],(w.alloc (.deferred (some []))).alloc (.loop rec),⟨.fn (.func f) cap.toArray,#[.func (.yield (w.heap.size+1)) #[] #[]]⟩,(w.alloc (.deferred (some []))).alloc (.loop rec),f,(.func (.yield (w.heap.size+1)) #[] #[]::cap).toArray,(w.alloc (.deferred (some []))).alloc (.loop rec),?_,?_,?_,?_,?_,?_⟩
 ·exact bg4
 ·grind [resolve,Deferred.ofValue,bN,Act.eval]
 ·grind
 ·have h9:=rH.out (.func (.yield (w.heap.size+1)) #[] #[]::cap).toArray ((w.alloc (.deferred (some []))).alloc (.loop rec))
  grind [invoke]
 ·grind
 ·have hE1:aN (pt (w.heap.size+1) (.loop rec)::pt w.heap.size (.deferred (some []))::Hs) ((A++(pt (w.heap.size+1) (.loop rec)::I []))++(pt w.heap.size (.deferred (some []))::F)):=bv4;obtain⟨β',hβ,vV,nL⟩:=jH (Bi.cd hE1);have hT:=hit (w.heap.size+1) (λpre=>pt (w.heap.size+1) (.loop rec)::I pre) (pt (w.heap.size+1) (.loop {rec with state:=.done,pending:=some .ret})::J) (λpre x post hx=>by
   refine YT.of (l:=w.heap.size+1) (ps:=ps) (r:=rec) (n:=N) (vs:=vs) ⟨_,aN.refl _⟩ aV5 (hl x) hp ⟨by rw[qL];exact he.1,U,by rw[qL];exact he.2.2⟩ ?_
   intro b' β' ZT lC yy
   have:=body b' β' (w.heap.size+1) rec pre x post hx lC yy aV5
   grind)
  have hc:=hT β' _ (G.mono hβ hG) vV;refine uw b.roundOf (hc.mono ?_);rintro e w3 ⟨B,hB,zU⟩;cases e with
  |panicked ch=>exact hB.elim
  |outgrown=>exact hB.elim
  |returned v=>
   have lP:=nL B w3 zU;have wq:∀(A:List az) (o:Obj) (Z:List az),((A++pt (w.heap.size+1) o::Z)++pt w.heap.size (.deferred (some []))::F).Perm (pt (w.heap.size+1) o::pt w.heap.size (.deferred (some []))::(A++Z++F)):=by
    intro A o Z;exact bB9
   rcases hB with hB|⟨A3,hB⟩
   ·subst hB;have h5:=lP.cd (di (wq _ _ _));exact al7
   ·subst hB;have h5:=lP.cd (di (wq _ _ _));refine⟨some .ret,_,by have:=run_endLoop (P:=P) (dS h5) nH;rw[qL]at this;exact this,?_⟩;have h6:=(oJ h5 (.loop {({rec with state:=.done,pending:=some .ret}:Loop)with state:=.exhausted})).cd (aN.drop _ _);rw[qL]at h6;exact wpIn_ret (stop w.heap.size A3 hb _ _ ⟨he.1,by show _::a.defers=_;rw[he.2.1],he.2.2⟩ h6)
theorem QZ{G:bZ}(hG:G.on β)(l9:mi b f0)[rH:CF P f]{g:Operand}{bd:Code}{k:List Item}{α:Type}{bo:α->List Value}{xs:List α}{F1:List az}(hit:ITS P G f cap A A2 bo xs)(hg:eo vs g=some (.func (.func f) #[] cap.toArray))(I:List α->List az)(I0:List az)(h0:I0=I [])[hA1:ES Hs A F1][hA2:ES F1 I0 F](hl:∀x,ps.length=(bo x).length)(hp:∀p∈ps,aH p N=true)(body:∀(b':Frame) (β':bS) (l:Nat) (r:Loop) (pre:List α) (x:α) (post:List α),xs=pre++x::post->b'.roundOf=some l->G.on β'->r.state=.ready->
  X P b' β' none (.it [.code bD4,.beginRound,.code bd]) ⟨N,yx ps (bo x) vs,[]⟩ (pt l (.loop r)::I pre) (cb (YQ (pt l (.loop {r with state:=.ready,pending:=none})::I (pre++[x])) (pt l (.loop {r with state:=.done,pending:=some .ret})::[pu False]))))(done:∀D,X P b β none (.it k) ⟨N,vs,⟨.collected D,#[]⟩::ds⟩ (pt D (.deferred (some []))::(A2++I xs++F)) R):
 X P b β none (.it (.code (.rangeFunc g ps.toArray bD4 bd)::k)) ⟨N,vs,ds⟩ Hs R:=by
 subst h0
 refine QY hG l9 hit hg I [pu False] (F:=F) aW4 hl hp body done λD A3=>?_
 refine XR.no (F:=pt D (.deferred (some []))::(A3++F)) ?_
 refine(aN.cons _ ?_).trans (cQ _ _ _)
 refine di ?_
 simp_all
end
section
variable{P:Program}{vs:List (Nat×Value)}{rest:List Oper}
theorem Kn[h:iI P e n]:P.cellsOf e=n:=by simp[Program.cellsOf,h.out]
theorem bd6[hk:Kt.nU k]{c u:Nat}{a:Option Addr}[ht:U7 P ty u][ho:FO Hs a e sz n c xs F](hw:aJ ops vs ⟨some d,.call ⟨.builtin .unsafeSliceData,#[x],#[t]⟩,ty,pos,af,g⟩=some true)(hn:aH d N=true)(hx:eo vs x=some (.slice a n c))(h:∀p,(0<n->p=a)->X P b β (some (ops,rest)) k ⟨N,(d,.pointer p)::vs,ds⟩ (own e sz a n c xs::F) R):
 X P b β (some (ops,⟨some d,.call ⟨.builtin .unsafeSliceData,#[x],#[t]⟩,ty,pos,af,g⟩::rest)) k ⟨N,vs,ds⟩ Hs R:=
 ly (ι:={p:Option Addr // 0<n->p=a}) (v:=λp=>.pointer p.1) (Hs':=λ_=>own e sz a n c xs::F) U hn hw (λaa w he hs=>by
  have e1:=aO he hx;have vV:=hs.cd ho.out;have key:∀p w',(Builtin.unsafeSliceData_ #[t] ty #[.slice a n c]).run P w=.ok (.pointer p) w'->(execOp aa.eval ⟨some d,.call ⟨.builtin .unsafeSliceData,#[x],#[t]⟩,ty,pos,af,g⟩).run P w=.ok (.value (.pointer p)) w':=by
   intro p w' hh;simp[execOp,resolve,invoke,builtin,e1,hh]
  by_cases ha:a=none
  ·subst ha;exact⟨⟨none,λ_=>rfl⟩,w,key _ _ (Lib.run_unsafeSliceData_nil w _ _ _ _),vV⟩
  ·obtain⟨a0,rfl⟩:=Option.ne_none_iff_exists'.1 ha;by_cases hc:c=0
   ·subst hc;rcases dx vV with⟨h1,_⟩|⟨g0,cur,h1,h2,h3,h4,h5,h6,h7⟩
    ·cases h1
    ·cases h1;have Ko:w.shape? g0=some (e,cur.size):=by
      have:=dS h7
      grind [World.shape?]
     refine⟨⟨_,λhp=>by omega⟩,_,key _ _ (Lib.run_unsafeSliceData_zero w #[t] ty u ht.out ⟨g0,0,none⟩ n _ Ko),?_⟩;exact(Sat.jP vV _).cd (aN.drop _ _)
   ·exact⟨⟨some a0,λ_=>rfl⟩,w,key _ _ (Lib.run_unsafeSliceData_row w _ _ _ _ _ hc),vV⟩) (λp=>h p.1 p.2)
theorem aU9[hk:Kt.nU k]{c it:Nat}{a p:Option Addr}[ht:U7 P t e][hz:iI P e 1][ho:FO Hs a e 1 n c (l.map fO) F](hw:aJ ops vs ⟨some d,.call ⟨.builtin .unsafeString,#[x,y],#[t,it]⟩,ty,pos,af,g⟩=some true)(hn:aH d N=true)(hx:eo vs x=some (.pointer p))(hy:eo vs y=some (.int .i64 n))(hp:0<n->p=a)(hl:n=l.length)(h:X P b β (some (ops,rest)) k ⟨N,(d,ao l)::vs,ds⟩ F R):
 X P b β (some (ops,⟨some d,.call ⟨.builtin .unsafeString,#[x,y],#[t,it]⟩,ty,pos,af,g⟩::rest)) k ⟨N,vs,ds⟩ Hs R:=
 CV (Hs':=F) (v:=ao l) U hn hw (λaa w he hs=>by
  have e1:=aO he hx;have e2:=aO he hy;have vV:=hs.cd ho.out;have key:∀v w',(Builtin.unsafeString_ #[t,it] ty #[.pointer p,.int .i64 n]).run P w=.ok v w'->(execOp aa.eval ⟨some d,.call ⟨.builtin .unsafeString,#[x,y],#[t,it]⟩,ty,pos,af,g⟩).run P w=.ok (.value v) w':=by
   intro v w' hh;simp[execOp,resolve,invoke,builtin,e1,e2,hh]
  by_cases h0:l=[]
  ·subst h0;simp at hl;subst hl;refine⟨w,key _ _ (Lib.run_unsafeString_none w t it ty p),?_⟩;exact vV.cd (aN.drop _ _)
  ·have zW:0<n:=by grind
   have:=hp zW;subst this;rcases dx vV with⟨_,h2,_⟩|⟨g0,cur,h1,h2,h3,h4,h5,h6,h7⟩
   ·omega
   ·cases h1;have hb:=dS h7;have Ko:w.shape? g0=some (e,cur.size):=by grind [World.shape?]
    have Bh:∀j x,l[j]?=some x->w.cell? ((⟨g0,0,none⟩:Addr).add j)=some (.int .u8 x.toNat):=by
     intro j x hj
     have hjl:j<l.length:=by
      grind
     have h8:(cur.toList.take (n*1))[j]?=some (fO x):=bE
     grind [fO,gj,Addr.add]
    have hm:maxLen=9223372036854775807:=U;have hr:=Lib.run_unsafeString_row (P:=P) w t it ty e ht.out Kn g0 cur.size Ko l h0 av av Bh;rw[<-hl]at hr;refine⟨_,key _ _ hr,?_⟩;have:(w.freeze ⟨g0,0,none⟩ n)={w with heap:=w.heap.setIfInBounds g0 (.cells cur e (0,0+n))}:=by
     unfold World.freeze
     rw[if_neg av]
     congr 1
     grind
    rw[this];exact(Sat.setObj h7).cd (aN.drop _ _)) h
theorem ab5{t':Nat}{a:Addr}[ht:U7 P t e][hz:iI P e n](hw:aJ ops vs ⟨some d,.binOp .neq t x y t',ty,pos,af,g⟩=some true)(hn:aH d N=true)(hx:eo vs x=some (.pointer (some a)))(hy:eo vs y=some (.pointer (some a)))(h:X P b β (some (ops,rest)) k ⟨N,(d,.bool false)::vs,ds⟩ Hs R):X P b β (some (ops,⟨some d,.binOp .neq t x y t',ty,pos,af,g⟩::rest)) k ⟨N,vs,ds⟩ Hs R:=
 X.val U hn hw (λaa w he _=>by
  have e1:=aO he hx
  have e2:=aO he hy
  obtain⟨j,hj,_⟩:=bk.1 hz.out
  have:=Lib.run_neq_ptr_same (P:=P) w (tp:=t) a ht.out hj
  grind [execOp,eqGuard,aU,aC,bN]) h
class TUp(P:Program)(t:Nat):Prop where out:P.underlying t=some .unsafePointer
theorem be8{s bt bl:Nat}[hs:U7 P s e][ht:TUp P t][hz:iI P e n][hf:FB Hs bl bt cs rs](hw:aJ ops vs ⟨some d,.convert s t x,ty,pos,af,g⟩=some true)(hn:aH d N=true)(hx:eo vs x=some (.pointer (some ⟨bl,0,none⟩)))(h0:aH 0 n=true)(h1:aH 0 cs.length=true)(h:X P b β (some (ops,rest)) k ⟨N,(d,.pointer (some ⟨bl,0,none⟩))::vs,ds⟩ Hs R):X P b β (some (ops,⟨some d,.convert s t x,ty,pos,af,g⟩::rest)) k ⟨N,vs,ds⟩ Hs R:=
 X.val U hn hw (λaa w he Wh=>by
  have e1:=aO he hx;obtain⟨j,hj,hj2⟩:=bk.1 hz.out;have Ko:w.shape? bl=some (bt,cs.length):=by
   have:=dS (Wh.cd hf.out)
   grind [World.shape?]
  have:=Lib.run_to_unsafe (P:=P) w ⟨bl,0,none⟩ hs.out ht.out hj (by grind [Nat.blt_eq]) Ko (by simp_all);simp[execOp,e1,this]) h
theorem bb6{s bl:Nat}[hs:TUp P s][ht:U7 P t e][hz:iI P e n][hf:FB Hs bl e cs rs](hw:aJ ops vs ⟨some d,.convert s t x,ty,pos,af,g⟩=some true)(hn:aH d N=true)(hx:eo vs x=some (.pointer (some ⟨bl,0,none⟩)))(h0:aH 0 n=true)(h1:dB cs.length n=true)(h:X P b β (some (ops,rest)) k ⟨N,(d,.pointer (some ⟨bl,0,none⟩))::vs,ds⟩ Hs R):X P b β (some (ops,⟨some d,.convert s t x,ty,pos,af,g⟩::rest)) k ⟨N,vs,ds⟩ Hs R:=
 X.val U hn hw (λaa w he Wh=>by
  have e1:=aO he hx;obtain⟨j,hj,hj2⟩:=bk.1 hz.out;have hn0:0<n:=by simp_all
  have wm:=Nat.beq_eq.mp h1;have Ko:w.shape? bl=some (e,cs.length):=by
   have:=dS (Wh.cd hf.out)
   grind [World.shape?]
  have hl:liesAt P P.depth e (cs.length / P.cellsOf e) 0 e 1=true:=by
   have hd:P.depth=(2*(P.types.size+Made.depth)+1)+1:=U;have hc:P.cellsOf e=n:=Kn;rw[hd];simp only[liesAt,Bool.or_eq_true];left;rw[hd];simp[rowAt,hc,sameLayout,wm,Nat.div_self hn0];omega
  have:=Lib.run_from_unsafe (P:=P) w ⟨bl,0,none⟩ hs.out ht.out hj Ko hl;simp[execOp,e1,this]) h
end
def rune(l:List UInt8)(i:Nat):Nat×Nat:=Utf8.decode ⟨l.toArray⟩ i
theorem P3(l:List UInt8)(i:Nat)(h:i<l.length)(h2:l[i].toNat<128):rune l i=(l[i].toNat,1):=by
 have hs:i<(⟨l.toArray⟩:ByteArray).size:=Va;have he:(⟨l.toArray⟩:ByteArray)[i]'hs=l[i]:=U;have:=decode_ascii ⟨l.toArray⟩ i hs (by rw[he];exact h2);rw[he]at this;exact this
theorem ah4(l:List UInt8)(i:Nat)(h:i<l.length)(h2:128<=l[i].toNat):128<=(rune l i).1:=by
 have hs:i<(⟨l.toArray⟩:ByteArray).size:=Va;have e:((⟨l.toArray⟩:ByteArray).get! (i+0))=l[i]:=by
  grind [ByteArray.get!]
 unfold rune;simp only[Utf8.decode,e,Utf8.runeError];rw[if_neg av];repeat' split
 all_goals simp_all
 all_goals omega
section
variable{P:Program}{vs:List (Nat×Value)}{rest:List Oper}
theorem bd9[hk:Kt.nU k][ht:oL P t](hw:aJ ops vs ⟨some d,.range t x,ty,pos,af,g⟩=some true)(hn:aH d N=true)(hx:eo vs x=some (ao l))(h:∀r,X P b β (some (ops,rest)) k ⟨N,(d,.pointer (some ⟨r,0,none⟩))::vs,ds⟩ (pt r (.stringIter ⟨l.toArray⟩ 0)::Hs) R):
 X P b β (some (ops,⟨some d,.range t x,ty,pos,af,g⟩::rest)) k ⟨N,vs,ds⟩ Hs R:=
 ly (v:=λr=>.pointer (some ⟨r,0,none⟩)) (Hs':=λr=>pt r (.stringIter ⟨l.toArray⟩ 0)::Hs) U hn hw (λa w he hs=>by
  have e1:=aO he hx;have:=run_range_string (P:=P) w t ⟨l.toArray⟩ ht.out;exact⟨w.heap.size,w.alloc (.stringIter ⟨l.toArray⟩ 0),by simp[execOp,e1,this,World.iter],Sat.jP hs _⟩) h
theorem bd7[hk:Kt.nU k]{r:Nat}[hf:FP Hs (pt r (.stringIter ⟨l.toArray⟩ i)) F](hw:aJ ops vs ⟨some d,.next x true,ty,pos,af,g⟩=some true)(hn:aH d N=true)(hx:eo vs x=some (.pointer (some ⟨r,0,none⟩)))(h:i<l.length->X P b β (some (ops,rest)) k ⟨N,(d,.tuple #[.bool true,.int .i64 i,.int .i32 (rune l i).1])::vs,ds⟩ (pt r (.stringIter ⟨l.toArray⟩ (i+(rune l i).2))::F) R)(h2:l.length<=i->X P b β (some (ops,rest)) k ⟨N,(d,.tuple #[.bool false])::vs,ds⟩ F R):
 X P b β (some (ops,⟨some d,.next x true,ty,pos,af,g⟩::rest)) k ⟨N,vs,ds⟩ Hs R:=by
 have xz:(⟨l.toArray⟩:ByteArray).size=l.length:=bo9
 rcases Nat.lt_or_ge i l.length with hi|hi
 ·refine CV (Hs':=pt r (.stringIter ⟨l.toArray⟩ (i+(rune l i).2))::F) (v:=.tuple #[.bool true,.int .i64 i,.int .i32 (rune l i).1]) U hn hw (λa w he hs=>?_) (h hi);have e1:=aO he hx;have ug:=hs.cd hf.out;have hr:=dS ug;refine⟨_,?_,Sat.setObj ug⟩;have tV:=(dT.1 hr).1;simp[execOp,e1,Instr.next,getObj,setObj,fo,hr,xz,hi,goInt,rune]
 ·refine CV (Hs':=F) (v:=.tuple #[.bool false]) U hn hw (λa w he hs=>?_) (h2 hi);have e1:=aO he hx;have ug:=hs.cd hf.out;have hr:=dS ug;refine⟨w,?_,ug.cd (aN.drop _ _)⟩;simp[execOp,e1,Instr.next,getObj,fo,hr,xz,Nat.not_lt.2 hi]
end
section
variable{P:Program}
theorem kB{α:Type}{Re:Rp α}{xs:List α}[hf:zI Hs a Re sz xs](j:Nat)(hj:j<xs.length)(h:∀bl o,a=some ⟨bl,o,none⟩->X P b β cc k E (el Re sz bl (o+j*sz) xs[j]::Hs) R):X P b β cc k E Hs R:=by
 obtain⟨rr,hr⟩:=hf.out
 refine aU6 hr (q:=∃bl o,a=some ⟨bl,o,none⟩) ?_ ?_
 ·rintro r (h1|⟨bl,o,h1,_⟩);all_goals grind
 ·rintro⟨bl,o,rfl⟩
  refine X.cd (il hr λr h3=>?_) (h bl o U)
  rcases h3 with h1|⟨b',o',h1,h2⟩
  ·grind
  simp_all
end
end
section
variable{vs:List (Nat×Value)}{v:Value}{t:Nat}
def Cp(ops:Array Oper)(vs:List (Nat×Value)):Bool:=C4 (λp=>C4 (λo=>match o.dst with|some d=> !dB d p.1|none=>true) ops.toList) vs
def Kt.free(k:Kt)(vs:List (Nat×Value)):Bool:=match k with
 |.dr ops ..=>Cp ops vs
 |.sw ops ..=>Cp ops vs
 |_=>true
theorem Wz:∀{vs:List (Nat×Value)} {t:Nat} {v:Value},lk vs t=some v->∃p∈vs,p.1=t
 |[],_,_,h=>by cases h
 |(d,u)::r,t,v,h=>by
  by_cases e:d=t
  ·exact⟨(d,u),by simp,e⟩
  ·have:lk r t=some v:=by
    have hb:dB d t=false:=by
     cases hq:dB d t with
     |false=>rfl
     |true=>exact absurd (eG hq) e
    unfold lk at h;rw[hb]at h;exact h
   obtain⟨p,h1,h2⟩:=Wz this;exact⟨p,by simp[h1],h2⟩
theorem Dz{ops:Array Oper}(h:Cp ops vs=true)(ht:lk vs t=some v):¬isDst ops t:=by
 rintro⟨o,ho,hd⟩;obtain⟨p,hp,rfl⟩:=Wz ht;unfold Cp at h;rw[pF,ef]at h;have h1:=h p hp;rw[pF,ef]at h1;have h2:=h1 o ho;simp_all
theorem MU{k:Kt}(h:k.free vs=true)(ht:lk vs t=some v):¬k.W t:=by
 cases k with
 |it k=>exact λh=>h
 |pr p=>exact λh=>h
 |dr=>exact Dz h ht
 |sw=>exact Dz h ht
section
variable{P:Program}{vs:List (Nat×Value)}{rest:List Oper}
theorem UH[hk:Kt.nU k]{G:bZ}(hG:G.on β){f0 f1:Nat}{rs:List ResultVar}(l9:mi b f0)[hf:FR P f0 rs][hcf1:CF P f1]{us1 cap1:List Value}{f:Nat}{xs:List Operand}{us:List Value}{qW:Array TypeId}{A F:List az}{ε α:Type}{pv:ε->Value}{r:Except ε α}{Q:α->Value->List az->Prop}(zH:List (Nat×Value))(hT:TR P G f us.toArray A (MR pv r Q))[rH:CF P f]
 (hw:aJ ops vs ⟨some d,.call ⟨.value (.func f),xs.toArray,qW⟩,ty,pos,af,g⟩=some true)(hn:aH d N=true)
 (hx:nk vs xs=some us)(hA:aN Hs (A++F))(Af:Sub zH vs)(gY:k.free zH=true)
 (hp:∀e,r=.error e->∃A1 B1 F1 l C,TP P G f1 (us1++cap1).toArray (pv e) A1 B1/\aN F (A1++F1)/\jK P ⟨N,zH,[⟨.fn (.func f1) cap1.toArray,us1.toArray⟩]⟩ B1 rs l/\R (.returned (lx l)) C/\aN B1 C)
 (h:∀x,r=.ok x->∀v B,Q x v B->X P b β (some (ops,rest)) k ⟨N,(d,v)::vs,[⟨.fn (.func f1) cap1.toArray,us1.toArray⟩]⟩ (B++F) R):
 X P b β (some (ops,⟨some d,.call ⟨.value (.func f),xs.toArray,qW⟩,ty,pos,af,g⟩::rest)) k ⟨N,vs,[⟨.fn (.func f1) cap1.toArray,us1.toArray⟩]⟩ Hs R:=by
 intro hb
 refine yj hG rH hT hw hn (λa he w=>?_) hA ?_ (λ_ h=>h) ?_ hb
 ·have h1:=kO (E:=⟨N,vs,[⟨.fn (.func f1) cap1.toArray,us1.toArray⟩]⟩) he hx
  have h2:xs.toArray.map a.eval=us.toArray:=aY1
  have h3:a.eval (.func f)=.func (.func f) #[] #[]:=U
  grind [resolve,Deferred.ofValue,invoke]
 ·rintro ch B ⟨e,hr,rfl,rfl⟩ a w he hs;obtain⟨A1,B1,F1,l,C,h1,h2,h3,h4,h5⟩:=hp e hr;obtain⟨fn,g1,rfl⟩:=hf.out;have Wv:Sat β F w:=hs;obtain⟨β',hβ,vV,nL⟩:=jH (Wv.cd h2);have hc:=h1 β' w (G.mono hβ hG) vV;refine UA λa' e1 e2 e3=>?_;have FD:fU ⟨N,zH,[⟨.fn (.func f1) cap1.toArray,us1.toArray⟩]⟩ a':=⟨e1.trans he.1,e2.trans he.2.1,λt v ht=>(e3 t (MU gY ht)).trans (he.2.2 t v (Af t v ht))⟩;refine rm l9.ro (by rw[l9.fn];exact g1) hb ?_;rw[FD.2.1];refine⟨by simp,.func f1,cap1.toArray,f1,(us1++cap1).toArray,U,?_,?_⟩
  ·have:=hcf1.out (us1++cap1).toArray w
   grind [invoke]
  ·refine hc.mono ?_;rintro e u' w' ⟨rfl,⟨v,rfl⟩,zU⟩;have h6:Sat β B1 w':=(nL B1 w' zU).cd (fN _ _);exact⟨_,mO (h3 β a' w' FD h6),⟨C,h4,h6.cd h5⟩⟩
 ·exact ZB
end
end
end Go.Sl
namespace Go.Sl
open Go.Sort Go.Proofs
variable{β:bS}{Hs:List az}{b:Frame}{R:Ending->List az->Prop}{k:Kt}{N d ty:Nat}{ds:List Deferred}{ops:Array Oper}{pos:String}{af:Array Edge}{g:Option (Nat×Bool)}{E:Env}{cc:Option (Array Oper×List Oper)}{w:World}{G:bZ}{α:Type}
section
variable{cur:Array Value}{os:Array Obj}{P:Program}{e:TypeId}
def GT:bZ:=⟨λ_=>True,λ_ h=>h,true⟩
theorem grown_of{w w':World}(h1:w'.os=w.os)(h2:w'.tape=w.tape)(h3:w'.output=w.output)(h4:∀(n:Nat) (o:Obj),w.heap[n]?=some o->w'.heap[n]?=some o)(h5:w.heap.size<=w'.heap.size)(h6:w.drawn<=w'.drawn):
 ∃q os,w'=grow (w.drewN q) os:=by
 refine⟨w'.drawn - w.drawn,w'.heap.extract w.heap.size w'.heap.size,?_⟩
 have hh:w'.heap=w.heap++w'.heap.extract w.heap.size w'.heap.size:=by
  apply Array.ext_getElem?;intro i;by_cases hi:i<w.heap.size
  ·rw[Array.getElem?_append_left hi];rw[Array.getElem?_eq_getElem hi];exact h4 i _ (Array.getElem?_eq_getElem hi)
  ·rw[Array.getElem?_append_right av,Array.getElem?_extract];by_cases h7:i<w'.heap.size
   ·rw[if_pos av];congr 1;omega
   ·rw[if_neg av,Array.getElem?_eq_none av]
 obtain⟨hp',tp,dr,os',ou⟩:=w'
 obtain⟨hp0,tp0,dr0,os0,ou0⟩:=w
 dsimp only at*
 subst h1 h2 h3
 simp only[grow,World.drewN]
 congr 1
 omega
theorem Uz{f:FuncId}{args:Array Value}{v:Value}(h:TR P GT f args [] (cT v))(w:World):Calls P f args w λe w'=>e=.returned v/\∃q os,w'=grow (w.drewN q) os:=by
 refine(h ⟨w,hp w,fL,true⟩ w ⟨trivial,λ_=>rfl⟩ ⟨hp w,fL,.refl _,⟨.refl _,cJ _,cJ _,(cR _).symm,(cR _).symm,cR _⟩,trivial,wH.refl _⟩).mono ?_;rintro e w' ⟨B,hB,r,o,h0,hf,_,pf⟩;cases e with
 |panicked ch=>exact hB.elim
 |outgrown=>exact hB.elim
 |returned u=>
  obtain⟨rfl,_⟩:=hB;exact⟨U,grown_of pf.1 pf.2.1 pf.2.2.1 (λn o h=>(h0.trans hf.r) n o h) pf.2.2.2.1 (pf.2.2.2.2 U)⟩
theorem Xc{w:World}{g:Nat}{ss:List Value}(hb:w.heap[g]?=some (.cells cur e (0,0)))(ht:cur.toList.take ss.length=ss):Holds id w g 0 ss.toArray:=by
 intro j hj;have hj':j<ss.length:=by simpa using hj
 refine⟨?_,by simp[World.frozen?,hb]⟩;have h1:(cur.toList.take ss.length)[j]?=ss[j]?:=by rw[ht]
 rw[List.getElem?_take_of_lt hj']at h1;simp only[gj,hb,aQ];simp only[Option.isSome_none,bY,if_false];rw[<-cZ,h1];simp[hj']
theorem ak2{w:World}{g n:Nat}{fr:Nat×Nat}(d:Array Value)(hb:w.heap[g]?=some (.cells cur e fr)):
 (grow (putRow id (Sort.ahead w n) g 0 d) os).heap[g]?=some (.cells (putCells id 0 d cur) e fr):=by
 have hg:g<w.heap.size:=(dT.1 hb).1
 rw[heap_grow_old _ _ (by simpa using hg)]
 simp[putRow,mapBlock,Sort.ahead,eF,hb,onCells]
theorem NZ{w:World}{g n:Nat}(d:Array Value):w.grownBy (grow (putRow id (Sort.ahead w n) g 0 d) os) (some g):=by
 refine⟨U,U,U,by simp,λk hk me=>?_⟩;rw[heap_grow_old _ _ (by simpa using hk)];have:g≠k:=λe=>me (by rw[e]);simp[putRow,mapBlock,Sort.ahead,eF,this]
theorem ak3(cur:Array Value)(ts:List Value)(h:ts.length<=cur.size):(putCells id 0 ts.toArray cur).toList.take ts.length=ts:=by
 apply dP;intro j;by_cases hj:j<ts.length
 ·rw[List.getElem?_take_of_lt hj,cZ];simp[putCells,hj,show j<cur.size by omega]
 ·rw[List.getElem?_take_eq_none av,List.getElem?_eq_none av]
theorem KQ{α:Type}[Inhabited α]{bo:α->List Value}{k:Nat}(hk:∀x,(bo x).length=k)(h0:0<k)(xs:List α):flatK bo k xs.toArray=(xs.flatMap bo).toArray:=by
 have hl:=wV hk xs;apply Array.ext
 ·simp[hl]
 ·intro t h1 h2;have ht:t<xs.length*k:=Ic;have hj:t / k<xs.length:=(Nat.div_lt_iff_lt_mul h0).2 ht;have hm:t%k<k:=Nat.mod_lt _ h0;have e1:=get_flatK bo k xs.toArray t (by simpa using ht);rw[getElem!_pos _ t h1]at e1;rw[e1];have e2:=P0 hk xs (t / k) hj;have hx:xs.toArray[t / k]! =xs[t / k]:=by simp[hj]
  rw[hx,<-e2];have h3:t%k<(((xs.flatMap bo).drop (t / k*k)).take k).length:=by rw[e2,hk];exact hm
  rw[getElem!_pos (((xs.flatMap bo).drop (t / k*k)).take k) (t%k) h3,List.getElem_take,List.getElem_drop];have h4:t / k*k+t%k=t:=by rw[Nat.mul_comm];exact Nat.div_add_mod t k
  simp only[List.getElem_toArray];congr 1
theorem KR{ρ:Go.Shelf.Ren}{G:bZ}(L:SlLaysF0.n6 P ρ){α:Type}[Inhabited α](e k:Nat)[aE:TA P (ρ.t 24) true][zE:iI P (ρ.t 24) k](bo:α->List Value)(hk:∀x,(bo x).length=k)(h1:∀x,mB (bo x)=true)(hk0:0<k)(cf:α->α->Int)(hO:SWO (ltOf cf))(hT:∀x y,(ltOf cf) x y=false->(ltOf cf) y x=false->x=y)(g:Nat)[rH:CF P g](hc:∀x y,TR P GT g #[.agg (bo x).toArray,.agg (bo y).toArray] [] (cT (.int .i64 (cf x y))))(a:Option Addr)(n c:Nat)(xs:List α)(hn:xs.length=n)(xz:n<=1000000000000):
 TR P G (ρ.f 6) #[.slice a n c,.func (.func g) #[] #[]] [own e k a n c (xs.flatMap bo)] (cb λv B=>v=.tuple #[]/\B=[own e k a n c ((xs.mergeSort λx y=> !(ltOf cf) y x).flatMap bo)]):=by
 intro β w _ hs
 have hlen:=wV hk xs
 rcases dx hs with⟨rfl,rfl,rfl,M9,h2⟩|⟨gb,cur,rfl,h3,h6,h7,h8,h9,h2⟩
 ·have HZ:xs=[]:=List.length_eq_zero_iff.1 hn;subst HZ;refine(AnyF.slices_SortFunc_none L none 0 _ w).mono ?_;rintro e' w' ⟨rfl,rfl⟩;exact⟨_,⟨U,U⟩,by simpa using iZ e k h2⟩
 ·subst hn;have hg:=dS h2;have hH:HoldsK bo k w gb 0 xs.toArray:=by
   unfold HoldsK;rw[KQ hk hk0];exact Xc hg (by rw[hlen];exact h9)
  have hcmp:CmpLays P g #[] bo k cf gb 0 xs.toArray.size w:=λm os dk _ x y=>by
   have:=Uz (hc x y) (sortWorldK bo k w gb 0 m dk os);simpa using this
  have aG1:=AnyQ.slices_SortFunc_total L k (λw=>iY aE.out) (λw=>iR zE.out) bo hk (λx v hv=>pV (h1 x) v hv) cf hO g #[] gb 0 c xs.toArray w rH.out hcmp hH (dT.1 hg).1 bB hT;simp only[dC]at aG1;refine aG1.mono ?_;rintro e' w' ⟨rfl,n',os,rfl⟩;refine⟨_,⟨U,U⟩,?_⟩;have sI:(xs.mergeSort λx y=> !(ltOf cf) y x).length=xs.length:=List.length_mergeSort _;generalize(xs.mergeSort λx y=> !(ltOf cf) y x)=ys at*;unfold sortWorldK putRowK;rw[KQ hk hk0];have Kf:=wV hk ys;have h4:=zM h2 (NZ (w:=w) (g:=gb) (n:=n') (os:=os) (ys.flatMap bo).toArray) (aT _ _) (ak2 (ys.flatMap bo).toArray hg) (.inl U);refine fK h4 (by rw[Kf,sI]) h6 h7 (by simp[Sort.putCells];omega) ?_;have h5:=ak3 cur (ys.flatMap bo) (by rw[Kf,sI];exact aj (cX _ h6) h8);rw[Kf,sI]at h5;exact h5
end
end Go.Sl
namespace Go.Sl
variable{β:bS}{Hs:List az}{b:Frame}{R:Ending->List az->Prop}{k:Kt}{N d ty:Nat}{ds:List Deferred}{ops:Array Oper}{pos:String}{af:Array Edge}{g:Option (Nat×Bool)}{E:Env}{cc:Option (Array Oper×List Oper)}{w:World}{G:bZ}{α:Type}
class TFu(P:Program)(t:Nat):Prop where out:∃ps rs v,P.underlying t=some (.func ps rs v)
def bp7:Value->Bool
 |.func ..=>true
 |_=>false
def zK:Value->Bool
 |.func ..=>true
 |.nilFunc=>true
 |_=>false
section
variable{P:Program}{vs:List (Nat×Value)}{rest:List Oper}
theorem MD{t t':Nat}{x:Operand}{u:Value}[ht:TFu P t](hw:aJ ops vs ⟨some d,.binOp .neq t x (.const .nilFunc) t',ty,pos,af,g⟩=some true)(hn:aH d N=true)(hx:eo vs x=some u)(hi:zK u=true)
 (h:X P b β (some (ops,rest)) k ⟨N,(d,.bool (bp7 u))::vs,ds⟩ Hs R):X P b β (some (ops,⟨some d,.binOp .neq t x (.const .nilFunc) t',ty,pos,af,g⟩::rest)) k ⟨N,vs,ds⟩ Hs R:=
 X.val U hn hw (λa w he _=>by
  have e1:=aO he hx;have e2:a.eval (.const .nilFunc)=.nilFunc:=U;obtain⟨ps,rs,v,Ib⟩:=ht.out;obtain⟨n,hn⟩:=sJ;cases u<;>simp only[zK,bY]at hi;all_goals simp[execOp,e1,e2,eqGuard,binOp,hn,fC,bC Ib,bp7]) h
end
end Go.Sl
namespace Go.Proofs
open Go.Sl Tryz
set_option maxRecDepth 8000
theorem K{p:Prop}(h:p:=by kernel_rfl):p:=h
theorem K2{p:Prop}(h:p:=by decide):p:=h
class FA(f:Nat)(fn:outParam Func)(n:outParam Nat):Prop where
 c:∀args w,(callFunc f args).run ab w=.ok (.enter f args) w
 u:ab.funcs[f]?=some fn
 n:fn.ntmps=n
 b:fn.body=some (HR fn)
section
variable {f:Nat}{fn:Func}{n:Nat}[h:FA f fn n]
instance:CF ab f:=⟨h.c⟩
instance:FR ab f fn.results.toList:=⟨_,h.u,U⟩
instance:FC ab f n (HR fn):=⟨_,h.u,h.n,h.b⟩
end
theorem MA{f n:Nat}{fn:Func}(c:∀args w,(callFunc f args).run ab w=.ok (.enter f args) w)(u:ab.funcs[f]?=some fn)(m:fn.ntmps=n:=by rfl)(b:fn.body=some (HR fn):=by rfl):FA f fn n:=⟨c,u,m,b⟩
theorem Pg{s i off sz:Nat}{ag:Bool}{fs:Array Field}(u:ab.underlying s=some (.struct fs))(h:∃f,fs[i]?=some f/\f.offset=off/\(ab.info? f.type).map (·.size)=some sz/\sz≠0/\(ab.underlying f.type).map ac3=some ag:=by exact⟨_,U,U,K,K2,K⟩):TF ab s i off sz ag:=⟨_,h.choose,u,h.choose_spec⟩
instance:uy ab 2 .i64:=⟨underlying2⟩
instance:uy ab 3 .i64:=⟨underlying3⟩
instance:TA ab 3 false:=⟨K⟩
instance:iI ab 3 1:=⟨K⟩
instance:yl ab 3 8:=⟨K⟩
instance:TZ ab 3 [.int .i64 0]:=⟨K⟩
instance:aV3 ab 4:=⟨underlying4⟩
instance:TA ab 4 false:=⟨K⟩
instance:iI ab 4 1:=⟨K⟩
instance:TZ ab 4 [.bool false]:=⟨K⟩
instance:uy ab 5 .u8:=⟨underlying5⟩
instance:TA ab 5 false:=⟨K⟩
instance:iI ab 5 1:=⟨K⟩
instance:yl ab 5 1:=⟨K⟩
instance:TZ ab 5 [.int .u8 0]:=⟨K⟩
instance:oL ab 9:=⟨underlying9⟩
instance:TA ab 9 false:=⟨K⟩
instance:iI ab 9 1:=⟨K⟩
instance:yl ab 9 16:=⟨K⟩
instance:TZ ab 9 [.string ⟨cU []⟩]:=⟨K⟩
instance:TA ab 23 false:=⟨K⟩
instance:iI ab 23 1:=⟨K⟩
instance:TZ ab 23 [.int .i64 0]:=⟨K⟩
instance:TA ab 28 false:=⟨K⟩
instance:iI ab 28 1:=⟨K⟩
instance:U7 ab 32 145:=⟨underlying32⟩
instance:TA ab 32 false:=⟨K⟩
instance:iI ab 32 1:=⟨K⟩
instance:px ab 35 9:=⟨underlying35⟩
instance:TA ab 35 false:=⟨K⟩
instance:iI ab 35 1:=⟨K⟩
instance:TZ ab 35 [.slice none 0 0]:=⟨K⟩
instance:px ab 48 60:=⟨underlying48⟩
instance:TA ab 48 false:=⟨K⟩
instance:iI ab 48 1:=⟨K⟩
instance:TZ ab 48 [.slice none 0 0]:=⟨K⟩
instance:TF ab 53 0 0 1 false:=Pg underlying53
instance:TF ab 53 1 1 1 false:=Pg underlying53
instance:tG ab 53 [(0,1),(1,1)]:=⟨_,underlying53,K⟩
instance:TZ ab 53 [.pointer none,.pointer none]:=⟨K⟩
instance:U7 ab 54 57:=⟨underlying54⟩
instance:TA ab 54 false:=⟨K⟩
instance:iI ab 54 1:=⟨K⟩
instance:px ab 55 5:=⟨underlying55⟩
instance:TA ab 55 false:=⟨K⟩
instance:iI ab 55 1:=⟨K⟩
instance:yl ab 55 24:=⟨K⟩
instance:TZ ab 55 [.slice none 0 0]:=⟨K⟩
instance:TF ab 57 0 0 1 false:=Pg underlying57
instance:TF ab 57 1 1 1 false:=Pg underlying57
instance:iI ab 57 2:=⟨K⟩
instance:TZ ab 57 [.pointer none,.slice none 0 0]:=⟨K⟩
instance:px ab 58 3:=⟨underlying58⟩
instance:TA ab 58 false:=⟨K⟩
instance:iI ab 58 1:=⟨K⟩
instance:TF ab 60 0 0 1 false:=Pg underlying60
instance:TF ab 60 1 1 1 false:=Pg underlying60
instance:TF ab 60 2 2 1 false:=Pg underlying60
instance:tG ab 60 [(0,1),(1,1),(2,1)]:=⟨_,underlying60,K⟩
instance:TA ab 60 true:=⟨K⟩
instance:iI ab 60 3:=⟨K⟩
instance:yl ab 60 64:=⟨K⟩
instance:TZ ab 60 [.string ⟨cU []⟩,.slice none 0 0,.slice none 0 0]:=⟨K⟩
instance:TA ab 62 false:=⟨K⟩
instance:px ab 67 70:=⟨underlying67⟩
instance:TA ab 67 false:=⟨K⟩
instance:TF ab 70 0 0 1 false:=Pg underlying70
instance:TF ab 70 1 1 1 false:=Pg underlying70
instance:tG ab 70 [(0,1),(1,1)]:=⟨_,underlying70,K⟩
instance:TA ab 70 true:=⟨K⟩
instance:iI ab 70 2:=⟨K⟩
instance:yl ab 70 40:=⟨K⟩
instance:TZ ab 70 [.string ⟨cU []⟩,.slice none 0 0]:=⟨K⟩
instance:xy ab 72 9 75:=⟨underlying72⟩
instance:TA ab 72 false:=⟨K⟩
instance:TF ab 74 0 0 1 false:=Pg underlying74
instance:TF ab 74 1 1 1 false:=Pg underlying74
instance:TF ab 74 2 2 1 false:=Pg underlying74
instance:TF ab 74 3 3 1 false:=Pg underlying74
instance:TF ab 74 4 4 1 false:=Pg underlying74
instance:TF ab 74 5 5 1 false:=Pg underlying74
instance:TF ab 74 6 6 1 false:=Pg underlying74
instance:TF ab 74 7 7 1 false:=Pg underlying74
instance:tG ab 74 [(0,1),(1,1),(2,1),(3,1),(4,1),(5,1),(6,1),(7,1)]:=⟨_,underlying74,K⟩
instance:TZ ab 74 [.int .i64 0,.int .i64 0,.map none,.int .i64 0,.int .i64 0,.int .i64 0,.bool false,.bool false]:=⟨K⟩
instance:U7 ab 75 78:=⟨underlying75⟩
instance:TA ab 75 false:=⟨K⟩
instance:iI ab 75 1:=⟨K⟩
instance:TZ ab 75 [.pointer none]:=⟨K⟩
instance:TF ab 78 0 0 1 false:=Pg underlying78
instance:TF ab 78 1 1 1 false:=Pg underlying78
instance:tG ab 78 [(0,1),(1,1)]:=⟨_,underlying78,K⟩
instance:TZ ab 78 [.slice none 0 0,.int .i64 0]:=⟨K⟩
instance:px ab 86 270:=⟨underlying86⟩
instance:TA ab 86 false:=⟨K⟩
instance:iI ab 86 1:=⟨K⟩
instance:uy ab 87 .u64:=⟨underlying87⟩
instance:TA ab 87 false:=⟨K⟩
instance:iI ab 87 1:=⟨K⟩
instance:TZ ab 87 [.int .u64 0]:=⟨K⟩
instance:TF ab 89 0 0 1 false:=Pg underlying89
instance:TF ab 89 1 1 1 false:=Pg underlying89
instance:TF ab 89 2 2 1 false:=Pg underlying89
instance:TF ab 89 3 3 1 false:=Pg underlying89
instance:tG ab 89 [(0,1),(1,1),(2,1),(3,1)]:=⟨_,underlying89,K⟩
instance:TA ab 89 true:=⟨K⟩
instance:iI ab 89 4:=⟨K⟩
instance:TZ ab 89 [.slice none 0 0,.int .u64 0,.int .i64 0,.int .i64 0]:=⟨K⟩
instance:TF ab 93 0 0 1 false:=Pg underlying93
instance:TF ab 93 1 1 1 false:=Pg underlying93
instance:TF ab 93 2 2 1 false:=Pg underlying93
instance:tG ab 93 [(0,1),(1,1),(2,1)]:=⟨_,underlying93,K⟩
instance:TA ab 93 true:=⟨K⟩
instance:iI ab 93 3:=⟨K⟩
instance:TZ ab 93 [.int .i64 0,.int .i64 0,.bool false]:=⟨K⟩
instance:tG ab 110 []:=⟨_,underlying110,K⟩
instance:TZ ab 110 []:=⟨K⟩
instance:tG ab 111 []:=⟨_,underlying111,K⟩
instance:TZ ab 111 []:=⟨K⟩
instance:TA ab 118 false:=⟨K⟩
instance:TA ab 119 false:=⟨K⟩
instance:TF ab 121 0 0 1 false:=Pg underlying121
instance:TF ab 121 1 1 1 false:=Pg underlying121
instance:TF ab 121 2 2 1 false:=Pg underlying121
instance:tG ab 121 [(0,1),(1,1),(2,1)]:=⟨_,underlying121,K⟩
instance:iI ab 121 3:=⟨K⟩
instance:TZ ab 121 [.slice none 0 0,.nilFunc,.nilFunc]:=⟨K⟩
instance:xy ab 122 9 121:=⟨underlying122⟩
instance:U7 ab 124 5:=⟨underlying124⟩
instance:TA ab 128 false:=⟨K⟩
instance:iI ab 128 1:=⟨K⟩
instance:TA ab 133 false:=⟨K⟩
instance:iI ab 133 1:=⟨K⟩
instance:TZ ab 133 [.pointer none]:=⟨K⟩
instance:TF ab 137 0 0 1 false:=Pg underlying137
instance:TF ab 137 1 1 1 false:=Pg underlying137
instance:tG ab 137 [(0,1),(1,1)]:=⟨_,underlying137,K⟩
instance:TZ ab 137 [.pointer none,.pointer none]:=⟨K⟩
instance:uy ab 139 .u32:=⟨underlying139⟩
instance:TA ab 139 false:=⟨K⟩
instance:iI ab 139 1:=⟨K⟩
instance:yl ab 139 4:=⟨K⟩
instance:TZ ab 139 [.int .u32 0]:=⟨K⟩
instance:TF ab 145 0 0 2 true:=Pg underlying145
instance:TF ab 145 1 2 1 false:=Pg underlying145
instance:TF ab 145 2 3 3 true:=Pg underlying145
instance:TF ab 145 3 6 2 true:=Pg underlying145
instance:TF ab 145 4 8 1 false:=Pg underlying145
instance:TF ab 145 5 9 1 false:=Pg underlying145
instance:TF ab 145 6 10 1 false:=Pg underlying145
instance:tG ab 145 [(0,2),(2,1),(3,3),(6,2),(8,1),(9,1),(10,1)]:=⟨_,underlying145,K⟩
instance:TZ ab 145 [.int .i32 0,.int .u32 0,.pointer none,.int .i64 0,.int .i64 0,.bool false,.pointer none,.pointer none,.int .u64 0,.bool false,.bool false]:=⟨K⟩
instance:uy ab 149 .i64:=⟨underlying149⟩
instance:TA ab 149 false:=⟨K⟩
instance:iI ab 149 1:=⟨K⟩
instance:TZ ab 149 [.int .i64 0]:=⟨K⟩
instance:TF ab 151 0 0 1 false:=Pg underlying151
instance:TF ab 151 1 1 1 false:=Pg underlying151
instance:TF ab 151 2 2 1 false:=Pg underlying151
instance:TF ab 151 3 3 1 false:=Pg underlying151
instance:tG ab 151 [(0,1),(1,1),(2,1),(3,1)]:=⟨_,underlying151,K⟩
instance:TA ab 151 true:=⟨K⟩
instance:iI ab 151 4:=⟨K⟩
instance:yl ab 151 48:=⟨K⟩
instance:TZ ab 151 [.int .u64 0,.int .i64 0,.string ⟨cU []⟩,.string ⟨cU []⟩]:=⟨K⟩
instance:TF ab 153 0 0 1 false:=Pg underlying153
instance:TF ab 153 1 1 1 false:=Pg underlying153
instance:TF ab 153 2 2 1 false:=Pg underlying153
instance:tG ab 153 [(0,1),(1,1),(2,1)]:=⟨_,underlying153,K⟩
instance:TA ab 153 true:=⟨K⟩
instance:iI ab 153 3:=⟨K⟩
instance:yl ab 153 24:=⟨K⟩
instance:TZ ab 153 [.int .u32 0,.int .i64 0,.int .i64 0]:=⟨K⟩
instance:TF ab 155 0 0 1 false:=Pg underlying155
instance:TF ab 155 1 1 1 false:=Pg underlying155
instance:TF ab 155 2 2 1 false:=Pg underlying155
instance:TF ab 155 3 3 3 true:=Pg underlying155
instance:TF ab 155 4 6 1 false:=Pg underlying155
instance:TF ab 155 5 7 1 false:=Pg underlying155
instance:tG ab 155 [(0,1),(1,1),(2,1),(3,3),(6,1),(7,1)]:=⟨_,underlying155,K⟩
instance:TA ab 155 true:=⟨K⟩
instance:iI ab 155 8:=⟨K⟩
instance:yl ab 155 80:=⟨K⟩
instance:TZ ab 155 [.string ⟨cU []⟩,.int .u64 0,.int .i64 0,.int .u32 0,.int .i64 0,.int .i64 0,.bool false,.string ⟨cU []⟩]:=⟨K⟩
instance:TF ab 177 0 0 1 false:=Pg underlying177
instance:TF ab 177 1 1 1 false:=Pg underlying177
instance:TF ab 177 2 2 1 false:=Pg underlying177
instance:TF ab 177 3 3 1 false:=Pg underlying177
instance:TF ab 177 4 4 1 false:=Pg underlying177
instance:TF ab 177 5 5 1 false:=Pg underlying177
instance:TF ab 177 6 6 1 false:=Pg underlying177
instance:TF ab 177 7 7 1 false:=Pg underlying177
instance:tG ab 177 [(0,1),(1,1),(2,1),(3,1),(4,1),(5,1),(6,1),(7,1)]:=⟨_,underlying177,K⟩
instance:TZ ab 177 [.pointer none,.int .i64 0,.int .i64 0,.int .u32 0,.int .i64 0,.int .i64 0,.int .i64 0,.bool false]:=⟨K⟩
instance:tG ab 180 [(0,1),(1,1)]:=⟨_,underlying180,K⟩
instance:TZ ab 180 [.string ⟨cU []⟩,.nilIface]:=⟨K⟩
instance:px ab 181 266:=⟨underlying181⟩
instance:TA ab 181 false:=⟨K⟩
instance:iI ab 181 1:=⟨K⟩
instance:TF ab 183 0 0 1 false:=Pg underlying183
instance:TF ab 183 1 1 4 true:=Pg underlying183
instance:TF ab 183 2 5 1 false:=Pg underlying183
instance:tG ab 183 [(0,1),(1,4),(5,1)]:=⟨_,underlying183,K⟩
instance:TA ab 183 true:=⟨K⟩
instance:iI ab 183 6:=⟨K⟩
instance:TZ ab 183 [.slice none 0 0,.slice none 0 0,.int .u64 0,.int .i64 0,.int .i64 0,.int .i64 0]:=⟨K⟩
instance:TF ab 214 0 0 1 false:=Pg underlying214
instance:TF ab 214 1 1 1 false:=Pg underlying214
instance:TF ab 214 2 2 1 false:=Pg underlying214
instance:TF ab 214 3 3 1 false:=Pg underlying214
instance:TF ab 214 4 4 1 false:=Pg underlying214
instance:tG ab 214 [(0,1),(1,1),(2,1),(3,1),(4,1)]:=⟨_,underlying214,K⟩
instance:TA ab 214 true:=⟨K⟩
instance:iI ab 214 5:=⟨K⟩
instance:yl ab 214 48:=⟨K⟩
instance:TZ ab 214 [.int .u64 0,.int .i64 0,.int .i64 0,.int .i64 0,.string ⟨cU []⟩]:=⟨K⟩
instance:TF ab 216 0 0 1 false:=Pg underlying216
instance:TF ab 216 1 1 1 false:=Pg underlying216
instance:TF ab 216 2 2 1 false:=Pg underlying216
instance:tG ab 216 [(0,1),(1,1),(2,1)]:=⟨_,underlying216,K⟩
instance:TA ab 216 true:=⟨K⟩
instance:iI ab 216 3:=⟨K⟩
instance:TZ ab 216 [.int .i64 0,.int .i64 0,.int .u32 0]:=⟨K⟩
instance:TF ab 218 0 0 1 false:=Pg underlying218
instance:TF ab 218 1 1 3 true:=Pg underlying218
instance:tG ab 218 [(0,1),(1,3)]:=⟨_,underlying218,K⟩
instance:TA ab 218 true:=⟨K⟩
instance:iI ab 218 4:=⟨K⟩
instance:TZ ab 218 [.int .i64 0,.int .i64 0,.int .i64 0,.int .u32 0]:=⟨K⟩
instance:TF ab 220 0 0 1 false:=Pg underlying220
instance:TF ab 220 1 1 4 true:=Pg underlying220
instance:TF ab 220 2 5 5 true:=Pg underlying220
instance:TF ab 220 3 10 4 true:=Pg underlying220
instance:tG ab 220 [(0,1),(1,4),(5,5),(10,4)]:=⟨_,underlying220,K⟩
instance:TA ab 220 true:=⟨K⟩
instance:iI ab 220 14:=⟨K⟩
instance:TZ ab 220 [.int .i64 0,.int .u64 0,.int .i64 0,.string ⟨cU []⟩,.string ⟨cU []⟩,.int .u64 0,.int .i64 0,.int .i64 0,.int .i64 0,.string ⟨cU []⟩,.int .i64 0,.int .i64 0,.int .i64 0,.int .u32 0]:=⟨K⟩
instance:xy ab 232 9 235:=⟨underlying232⟩
instance:TA ab 232 false:=⟨K⟩
instance:iI ab 232 1:=⟨K⟩
instance:TF ab 234 0 0 1 false:=Pg underlying234
instance:tG ab 234 [(0,1)]:=⟨_,underlying234,K⟩
instance:TZ ab 234 [.map none]:=⟨K⟩
instance:px ab 235 155:=⟨underlying235⟩
instance:TA ab 235 false:=⟨K⟩
instance:iI ab 235 1:=⟨K⟩
instance:TZ ab 235 [.slice none 0 0]:=⟨K⟩
instance:xy ab 246 9 55:=⟨underlying246⟩
instance:TA ab 246 false:=⟨K⟩
instance:px ab 254 139:=⟨underlying254⟩
instance:px ab 255 70:=⟨underlying255⟩
instance:TA ab 255 false:=⟨K⟩
instance:iI ab 255 1:=⟨K⟩
instance:TF ab 258 0 0 1 false:=Pg underlying258
instance:TF ab 258 1 1 1 false:=Pg underlying258
instance:TF ab 258 2 2 6 true:=Pg underlying258
instance:tG ab 258 [(0,1),(1,1),(2,6)]:=⟨_,underlying258,K⟩
instance:TZ ab 258 [.slice none 0 0,.int .i64 0,.slice none 0 0,.slice none 0 0,.int .u64 0,.int .i64 0,.int .i64 0,.int .i64 0]:=⟨K⟩
instance:px ab 259 262:=⟨underlying259⟩
instance:TF ab 262 0 0 2 true:=Pg underlying262
instance:TF ab 262 1 2 1 false:=Pg underlying262
instance:tG ab 262 [(0,2),(2,1)]:=⟨_,underlying262,K⟩
instance:TA ab 262 true:=⟨K⟩
instance:iI ab 262 3:=⟨K⟩
instance:yl ab 262 48:=⟨K⟩
instance:TZ ab 262 [.string ⟨cU []⟩,.slice none 0 0,.int .u32 0]:=⟨K⟩
instance:TA ab 264 false:=⟨K⟩
instance:TF ab 266 0 0 1 false:=Pg underlying266
instance:TF ab 266 1 1 1 false:=Pg underlying266
instance:TF ab 266 2 2 1 false:=Pg underlying266
instance:TF ab 266 3 3 1 false:=Pg underlying266
instance:TF ab 266 4 4 1 false:=Pg underlying266
instance:tG ab 266 [(0,1),(1,1),(2,1),(3,1),(4,1)]:=⟨_,underlying266,K⟩
instance:TA ab 266 true:=⟨K⟩
instance:iI ab 266 5:=⟨K⟩
instance:yl ab 266 72:=⟨K⟩
instance:TZ ab 266 [.int .i64 0,.string ⟨cU []⟩,.string ⟨cU []⟩,.slice none 0 0,.int .i64 0]:=⟨K⟩
instance:iI ab 267 1:=⟨K⟩
instance:px ab 268 404:=⟨underlying268⟩
instance:TA ab 268 false:=⟨K⟩
instance:iI ab 268 1:=⟨K⟩
instance:TZ ab 268 [.slice none 0 0]:=⟨K⟩
instance:TF ab 270 2 2 1 false:=Pg underlying270
instance:TF ab 270 3 3 1 false:=Pg underlying270
instance:TF ab 270 4 4 1 false:=Pg underlying270
instance:tG ab 270 [(0,1),(1,1),(2,1),(3,1),(4,1)]:=⟨_,underlying270,K⟩
instance:TA ab 270 true:=⟨K⟩
instance:iI ab 270 5:=⟨K⟩
instance:yl ab 270 72:=⟨K⟩
instance:TZ ab 270 [.string ⟨cU []⟩,.int .i64 0,.slice none 0 0,.string ⟨cU []⟩,.int .i64 0]:=⟨K⟩
instance:TA ab 275 false:=⟨K⟩
instance:iI ab 275 1:=⟨K⟩
instance:px ab 277 280:=⟨underlying277⟩
instance:U7 ab 280 283:=⟨underlying280⟩
instance:TA ab 280 false:=⟨K⟩
instance:iI ab 280 1:=⟨K⟩
instance:yl ab 280 8:=⟨K⟩
instance:TZ ab 280 [.pointer none]:=⟨K⟩
instance:px ab 281 214:=⟨underlying281⟩
instance:TA ab 281 false:=⟨K⟩
instance:iI ab 281 1:=⟨K⟩
instance:TZ ab 281 [.slice none 0 0]:=⟨K⟩
instance:TF ab 283 0 0 1 false:=Pg underlying283
instance:TF ab 283 1 1 1 false:=Pg underlying283
instance:TF ab 283 2 2 1 false:=Pg underlying283
instance:TF ab 283 3 3 1 false:=Pg underlying283
instance:tG ab 283 [(0,1),(1,1),(2,1),(3,1)]:=⟨_,underlying283,K⟩
instance:TZ ab 283 [.int .u32 0,.slice none 0 0,.bool false,.slice none 0 0]:=⟨K⟩
instance:xy ab 286 9 110:=⟨underlying286⟩
instance:TA ab 286 false:=⟨K⟩
instance:TF ab 292 0 0 1 false:=Pg underlying292
instance:TF ab 292 1 1 1 false:=Pg underlying292
instance:iI ab 292 2:=⟨K⟩
instance:px ab 337 349:=⟨underlying337⟩
instance:TA ab 339 false:=⟨K⟩
instance:px ab 341 151:=⟨underlying341⟩
instance:TA ab 341 false:=⟨K⟩
instance:iI ab 341 1:=⟨K⟩
instance:xy ab 343 9 344:=⟨underlying343⟩
instance:TA ab 343 false:=⟨K⟩
instance:xy ab 344 151 3:=⟨underlying344⟩
instance:TA ab 344 false:=⟨K⟩
instance:TF ab 346 0 0 1 false:=Pg underlying346
instance:TF ab 346 1 1 1 false:=Pg underlying346
instance:TF ab 346 2 2 1 false:=Pg underlying346
instance:TF ab 346 3 3 1 false:=Pg underlying346
instance:tG ab 346 [(0,1),(1,1),(2,1),(3,1)]:=⟨_,underlying346,K⟩
instance:TZ ab 346 [.slice none 0 0,.map none,.map none,.int .u64 0]:=⟨K⟩
instance:TF ab 349 0 0 2 true:=Pg underlying349
instance:TF ab 349 1 2 1 false:=Pg underlying349
instance:TF ab 349 2 3 1 false:=Pg underlying349
instance:TF ab 349 3 4 1 false:=Pg underlying349
instance:tG ab 349 [(0,2),(2,1),(3,1),(4,1)]:=⟨_,underlying349,K⟩
instance:TA ab 349 true:=⟨K⟩
instance:iI ab 349 5:=⟨K⟩
instance:yl ab 349 80:=⟨K⟩
instance:TZ ab 349 [.string ⟨cU []⟩,.slice none 0 0,.int .u32 0,.slice none 0 0,.bool false]:=⟨K⟩
instance:px ab 351 55:=⟨underlying351⟩
instance:TF ab 355 0 0 1 false:=Pg underlying355
instance:TF ab 355 1 1 1 false:=Pg underlying355
instance:tG ab 355 [(0,1),(1,1)]:=⟨_,underlying355,K⟩
instance:TZ ab 355 [.slice none 0 0,.slice none 0 0]:=⟨K⟩
instance:px ab 362 365:=⟨underlying362⟩
instance:TA ab 362 false:=⟨K⟩
instance:iI ab 362 1:=⟨K⟩
instance:TZ ab 362 [.slice none 0 0]:=⟨K⟩
instance:TF ab 365 0 0 14 true:=Pg underlying365
instance:TF ab 365 1 14 1 false:=Pg underlying365
instance:TF ab 365 2 15 1 false:=Pg underlying365
instance:tG ab 365 [(0,14),(14,1),(15,1)]:=⟨_,underlying365,K⟩
instance:TA ab 365 true:=⟨K⟩
instance:iI ab 365 16:=⟨K⟩
instance:yl ab 365 152:=⟨K⟩
instance:TZ ab 365 [.int .i64 0,.int .u64 0,.int .i64 0,.string ⟨cU []⟩,.string ⟨cU []⟩,.int .u64 0,.int .i64 0,.int .i64 0,.int .i64 0,.string ⟨cU []⟩,.int .i64 0,.int .i64 0,.int .i64 0,.int .u32 0,.int .i64 0,.int .i64 0]:=⟨K⟩
instance:TA ab 382 true:=⟨K⟩
instance:iI ab 382 256:=⟨K⟩
instance:uy ab 388 .u64:=⟨underlying388⟩
instance:TZ ab 389 [.int .u8 0,.int .u8 0,.int .u8 0,.int .u8 0,.int .u8 0,.int .u8 0,.int .u8 0,.int .u8 0,.int .u8 0,.int .u8 0,.int .u8 0,.int .u8 0,.int .u8 0,.int .u8 0,.int .u8 0,.int .u8 0,.int .u8 0,.int .u8 0,.int .u8 0,.int .u8 0,.int .u8 0,.int .u8 0,.int .u8 0,.int .u8 0]:=⟨K⟩
instance:TF ab 404 0 0 1 false:=Pg underlying404
instance:TF ab 404 1 1 1 false:=Pg underlying404
instance:TF ab 404 2 2 1 false:=Pg underlying404
instance:tG ab 404 [(0,1),(1,1),(2,1)]:=⟨_,underlying404,K⟩
instance:TA ab 404 true:=⟨K⟩
instance:iI ab 404 3:=⟨K⟩
instance:yl ab 404 24:=⟨K⟩
instance:TZ ab 404 [.bool false,.int .i64 0,.int .i64 0]:=⟨K⟩
instance:TZ ab 411 [.nilFunc,.nilFunc,.nilFunc,.nilFunc,.nilFunc,.nilFunc]:=⟨K⟩
instance:px ab 416 153:=⟨underlying416⟩
instance:TA ab 416 false:=⟨K⟩
instance:iI ab 416 1:=⟨K⟩
instance:px ab 438 87:=⟨underlying438⟩
instance:px ab 464 149:=⟨underlying464⟩
instance:TA ab 464 false:=⟨K⟩
instance:iI ab 464 1:=⟨K⟩
instance:TF ab 469 0 0 14 true:=Pg underlying469
instance:TF ab 469 1 14 1 false:=Pg underlying469
instance:TF ab 469 2 15 1 false:=Pg underlying469
instance:tG ab 469 [(0,14),(14,1),(15,1)]:=⟨_,underlying469,K⟩
instance:iI ab 469 16:=⟨K⟩
instance:TZ ab 469 [.int .i64 0,.int .u64 0,.int .i64 0,.string ⟨cU []⟩,.string ⟨cU []⟩,.int .u64 0,.int .i64 0,.int .i64 0,.int .i64 0,.string ⟨cU []⟩,.int .i64 0,.int .i64 0,.int .i64 0,.int .u32 0,.int .i64 0,.int .i64 0]:=⟨K⟩
instance:uy ab 476 .i64:=⟨underlying476⟩
instance:TA ab 489 false:=⟨K⟩
instance:TF ab 491 0 0 1 false:=Pg underlying491
instance:TF ab 491 1 1 1 false:=Pg underlying491
instance:tG ab 491 [(0,1),(1,1)]:=⟨_,underlying491,K⟩
instance:TA ab 491 true:=⟨K⟩
instance:iI ab 491 2:=⟨K⟩
instance:TZ ab 491 [.bool false,.nilFunc]:=⟨K⟩
instance:TA ab 492 true:=⟨K⟩
instance:iI ab 492 12:=⟨K⟩
instance:TZ ab 492 [.bool false,.nilFunc,.bool false,.nilFunc,.bool false,.nilFunc,.bool false,.nilFunc,.bool false,.nilFunc,.bool false,.nilFunc]:=⟨K⟩
instance:TA ab 495 false:=⟨K⟩
instance:iI ab 495 1:=⟨K⟩
instance:TZ ab 495 [.nilFunc]:=⟨K⟩
instance:xy ab 501 139 280:=⟨underlying501⟩
instance:TA ab 501 false:=⟨K⟩
instance:iI ab 501 1:=⟨K⟩
instance:TZ ab 501 [.map none]:=⟨K⟩
instance:xy ab 502 153 3:=⟨underlying502⟩
instance:TA ab 502 false:=⟨K⟩
instance:xy ab 519 139 3:=⟨underlying519⟩
instance:TF ab 527 0 0 1 false:=Pg underlying527
instance:TF ab 527 1 1 1 false:=Pg underlying527
instance:tG ab 527 [(0,1),(1,1)]:=⟨_,underlying527,K⟩
instance:TZ ab 527 [.slice none 0 0,.bool false]:=⟨K⟩
instance:TA ab 528 false:=⟨K⟩
instance:iI ab 528 1:=⟨K⟩
instance:TZ ab 528 [.nilFunc]:=⟨K⟩
instance:xy ab 532 9 151:=⟨underlying532⟩
instance:TA ab 532 false:=⟨K⟩
instance:tG ab 547 [(0,1),(1,1),(2,1)]:=⟨_,underlying547,K⟩
instance:TZ ab 547 [.string ⟨cU []⟩,.string ⟨cU []⟩,.nilIface]:=⟨K⟩
instance:TA ab 561 false:=⟨K⟩
instance:FR ab 5 [.tmp 2]:=⟨_,func5,U⟩
instance:FC ab 5 61 (HR f5):=⟨_,func5,ntmps5,U⟩
instance:FA 6 f6 19:=MA call6 func6
instance:FA 7 f7 44:=MA call7 func7
instance:FA 8 f8 74:=MA call8 func8
instance:FA 15 f15 41:=MA call15 func15
instance:FA 16 f16 29:=MA call16 func16
instance:FA 17 f17 41:=MA call17 func17
instance:FA 18 f18 19:=MA call18 func18
instance:FA 19 f19 33:=MA call19 func19
instance:FA 20 f20 14:=MA call20 func20
instance:FA 21 f21 9:=MA call21 func21
instance:FA 22 f22 7:=MA call22 func22
instance:FA 23 f23 11:=MA call23 func23
instance:FA 24 f24 8:=MA call24 func24
instance:FA 25 f25 11:=MA call25 func25
instance:FA 28 f28 17:=MA call28 func28
instance:FA 29 f29 78:=MA call29 func29
instance:FA 30 f30 5:=MA call30 func30
instance:FA 32 f32 7:=MA call32 func32
instance:FA 33 f33 53:=MA call33 func33
instance:FA 35 f35 20:=MA call35 func35
instance:FA 42 f42 7:=MA call42 func42
instance:FA 43 f43 40:=MA call43 func43
instance:FA 44 f44 77:=MA call44 func44
instance:FA 45 f45 28:=MA call45 func45
instance:FA 46 f46 31:=MA call46 func46
instance:FA 47 f47 4:=MA call47 func47
instance:FA 48 f48 14:=MA call48 func48
instance:FA 49 f49 92:=MA call49 func49
instance:FA 50 f50 29:=MA call50 func50
instance:FA 51 f51 73:=MA call51 func51
instance:CF ab 52:=⟨call52⟩
instance:FA 53 f53 8:=MA call53 func53
instance:FA 54 f54 6:=MA call54 func54
instance:FA 55 f55 8:=MA call55 func55
instance:FA 56 f56 9:=MA call56 func56
instance:CF ab 57:=⟨call57⟩
instance:FA 58 f58 117:=MA call58 func58
instance:FA 59 f59 20:=MA call59 func59
instance:FA 60 f60 41:=MA call60 func60
instance:FA 61 f61 19:=MA call61 func61
instance:FA 62 f62 38:=MA call62 func62
instance:FA 63 f63 8:=MA call63 func63
instance:FA 64 f64 27:=MA call64 func64
instance:FA 65 f65 13:=MA call65 func65
instance:FA 66 f66 39:=MA call66 func66
instance:FA 67 f67 40:=MA call67 func67
instance:FA 68 f68 47:=MA call68 func68
instance:CF ab 69:=⟨call69⟩
instance:CF ab 70:=⟨call70⟩
instance:CF ab 71:=⟨call71⟩
instance:FA 72 f72 14:=MA call72 func72
instance:FA 73 f73 19:=MA call73 func73
instance:FA 74 f74 11:=MA call74 func74
instance:FA 75 f75 58:=MA call75 func75
instance:FA 76 f76 24:=MA call76 func76
instance:FA 77 f77 9:=MA call77 func77
instance:FA 78 f78 76:=MA call78 func78
instance:FA 79 f79 21:=MA call79 func79
instance:FA 80 f80 9:=MA call80 func80
instance:FA 81 f81 35:=MA call81 func81
instance:FA 82 f82 10:=MA call82 func82
instance:FA 83 f83 34:=MA call83 func83
instance:FA 84 f84 34:=MA call84 func84
instance:FA 85 f85 29:=MA call85 func85
instance:FA 86 f86 48:=MA call86 func86
instance:FA 87 f87 36:=MA call87 func87
instance:FA 88 f88 32:=MA call88 func88
instance:FA 89 f89 66:=MA call89 func89
instance:FA 90 f90 21:=MA call90 func90
instance:FA 93 f93 35:=MA call93 func93
instance:FA 94 f94 26:=MA call94 func94
instance:FA 95 f95 28:=MA call95 func95
instance:FA 97 f97 26:=MA call97 func97
instance:FA 98 f98 62:=MA call98 func98
instance:FA 99 f99 16:=MA call99 func99
instance:FA 100 f100 11:=MA call100 func100
instance:FA 101 f101 10:=MA call101 func101
instance:FA 102 f102 29:=MA call102 func102
instance:FA 103 f103 8:=MA call103 func103
instance:FA 104 f104 8:=MA call104 func104
instance:FA 105 f105 8:=MA call105 func105
instance:FA 106 f106 22:=MA call106 func106
instance:FA 107 f107 22:=MA call107 func107
instance:FA 108 f108 9:=MA call108 func108
instance:FA 109 f109 8:=MA call109 func109
instance:FA 110 f110 15:=MA call110 func110
instance:FA 111 f111 8:=MA call111 func111
instance:FA 112 f112 20:=MA call112 func112
instance:FA 113 f113 18:=MA call113 func113
instance:FA 114 f114 149:=MA call114 func114
instance:FA 115 f115 32:=MA call115 func115
instance:FA 116 f116 31:=MA call116 func116
instance:FA 117 f117 12:=MA call117 func117
instance:CF ab 118:=⟨call118⟩
instance:FA 119 f119 9:=MA call119 func119
instance:FA 120 f120 7:=MA call120 func120
instance:FA 121 f121 166:=MA call121 func121
instance:FA 122 f122 46:=MA call122 func122
instance:FA 123 f123 38:=MA call123 func123
instance:FA 124 f124 127:=MA call124 func124
instance:FA 125 f125 5:=MA call125 func125
instance:FA 126 f126 63:=MA call126 func126
instance:FA 127 f127 19:=MA call127 func127
instance:FA 134 f134 4:=MA call134 func134
instance:FA 135 f135 125:=MA call135 func135
instance:FA 136 f136 107:=MA call136 func136
instance:FA 137 f137 7:=MA call137 func137
instance:FA 138 f138 19:=MA call138 func138
instance:FA 139 f139 24:=MA call139 func139
instance:FA 140 f140 19:=MA call140 func140
instance:FA 141 f141 71:=MA call141 func141
instance:FA 142 f142 25:=MA call142 func142
instance:FA 143 f143 9:=MA call143 func143
instance:FA 144 f144 150:=MA call144 func144
instance:FA 145 f145 4:=MA call145 func145
instance:FA 146 f146 4:=MA call146 func146
instance:FA 147 f147 38:=MA call147 func147
instance:FA 148 f148 20:=MA call148 func148
instance:FA 149 f149 39:=MA call149 func149
instance:FA 151 f151 34:=MA call151 func151
instance:FA 152 f152 8:=MA call152 func152
instance:FA 154 f154 43:=MA call154 func154
instance:CF ab 155:=⟨call155⟩
instance:FA 156 f156 8:=MA call156 func156
instance:FA 157 f157 17:=MA call157 func157
instance:FA 158 f158 41:=MA call158 func158
instance:FA 159 f159 32:=MA call159 func159
instance:FA 160 f160 39:=MA call160 func160
instance:FA 161 f161 9:=MA call161 func161
instance:FA 162 f162 4:=MA call162 func162
instance:FA 164 f164 4:=MA call164 func164
instance:FA 165 f165 28:=MA call165 func165
instance:FA 166 f166 19:=MA call166 func166
instance:CF ab 167:=⟨call167⟩
instance:FA 168 f168 35:=MA call168 func168
instance:FA 169 f169 57:=MA call169 func169
instance:FA 170 f170 9:=MA call170 func170
instance:FA 171 f171 129:=MA call171 func171
instance:FA 172 f172 20:=MA call172 func172
instance:FA 173 f173 8:=MA call173 func173
instance:FA 174 f174 8:=MA call174 func174
instance:FA 175 f175 6:=MA call175 func175
instance:FA 176 f176 87:=MA call176 func176
instance:FA 177 f177 52:=MA call177 func177
instance:FA 178 f178 54:=MA call178 func178
instance:FA 179 f179 38:=MA call179 func179
instance:FA 180 f180 9:=MA call180 func180
instance:FA 181 f181 7:=MA call181 func181
instance:FA 182 f182 8:=MA call182 func182
instance:FA 183 f183 11:=MA call183 func183
instance:FA 184 f184 11:=MA call184 func184
instance:FA 185 f185 26:=MA call185 func185
instance:FA 186 f186 25:=MA call186 func186
instance:FA 187 f187 32:=MA call187 func187
instance:FA 188 f188 37:=MA call188 func188
instance:FA 189 f189 9:=MA call189 func189
instance:FA 201 f201 17:=MA call201 func201
instance:FA 202 f202 33:=MA call202 func202
instance:FA 203 f203 48:=MA call203 func203
instance:FA 204 f204 50:=MA call204 func204
instance:FA 205 f205 29:=MA call205 func205
instance:FA 206 f206 12:=MA call206 func206
instance:FA 207 f207 35:=MA call207 func207
instance:FA 208 f208 93:=MA call208 func208
instance:FA 209 f209 29:=MA call209 func209
instance:FA 210 f210 9:=MA call210 func210
instance:FA 211 f211 6:=MA call211 func211
instance:FA 212 f212 56:=MA call212 func212
instance:FA 213 f213 36:=MA call213 func213
instance:FA 214 f214 80:=MA call214 func214
instance:FA 215 f215 33:=MA call215 func215
instance:FA 216 f216 22:=MA call216 func216
instance:FA 217 f217 16:=MA call217 func217
instance:FA 218 f218 35:=MA call218 func218
instance:FA 219 f219 112:=MA call219 func219
instance:FA 220 f220 34:=MA call220 func220
instance:FA 221 f221 63:=MA call221 func221
instance:FA 222 f222 86:=MA call222 func222
instance:FA 223 f223 16:=MA call223 func223
instance:FA 224 f224 42:=MA call224 func224
instance:FA 225 f225 6:=MA call225 func225
instance:FA 226 f226 57:=MA call226 func226
instance:FA 227 f227 32:=MA call227 func227
instance:FA 228 f228 10:=MA call228 func228
instance:FA 229 f229 10:=MA call229 func229
instance:FA 230 f230 43:=MA call230 func230
instance:FA 231 f231 43:=MA call231 func231
instance:FA 232 f232 38:=MA call232 func232
instance:FA 233 f233 30:=MA call233 func233
instance:FA 234 f234 23:=MA call234 func234
instance:FA 238 f238 143:=MA call238 func238
instance:FA 243 f243 21:=MA call243 func243
instance:FA 244 f244 16:=MA call244 func244
instance:FA 245 f245 22:=MA call245 func245
instance:FA 249 f249 43:=MA call249 func249
instance:FA 250 f250 8:=MA call250 func250
instance:CF ab 251:=⟨call251⟩
instance:CF ab 252:=⟨call252⟩
instance:CF ab 253:=⟨call253⟩
instance:FA 254 f254 102:=MA call254 func254
instance:FA 255 f255 5:=MA call255 func255
instance:CF ab 256:=⟨call256⟩
instance:FA 257 f257 14:=MA call257 func257
instance:FA 259 f259 14:=MA call259 func259
instance:FA 260 f260 11:=MA call260 func260
instance:FA 261 f261 9:=MA call261 func261
instance:FA 262 f262 24:=MA call262 func262
instance:FA 263 f263 8:=MA call263 func263
instance:FA 264 f264 46:=MA call264 func264
instance:FA 265 f265 19:=MA call265 func265
instance:FA 266 f266 33:=MA call266 func266
instance:FA 267 f267 31:=MA call267 func267
instance:FA 268 f268 23:=MA call268 func268
instance:FA 269 f269 74:=MA call269 func269
instance:FA 270 f270 19:=MA call270 func270
instance:FA 271 f271 8:=MA call271 func271
instance:FA 272 f272 9:=MA call272 func272
instance:FA 273 f273 19:=MA call273 func273
instance:FA 274 f274 25:=MA call274 func274
instance:FA 275 f275 9:=MA call275 func275
instance:FA 276 f276 11:=MA call276 func276
instance:FA 277 f277 23:=MA call277 func277
instance:FA 278 f278 11:=MA call278 func278
instance:FA 279 f279 32:=MA call279 func279
instance:FA 280 f280 49:=MA call280 func280
instance:FA 281 f281 19:=MA call281 func281
instance:FA 282 f282 50:=MA call282 func282
instance:FA 283 f283 48:=MA call283 func283
instance:FA 284 f284 4:=MA call284 func284
instance:CF ab 285:=⟨call285⟩
instance:FA 286 f286 10:=MA call286 func286
instance:FA 287 f287 84:=MA call287 func287
instance:FA 288 f288 64:=MA call288 func288
instance:FA 289 f289 33:=MA call289 func289
instance:FA 290 f290 15:=MA call290 func290
instance:FA 291 f291 21:=MA call291 func291
instance:FA 292 f292 15:=MA call292 func292
instance:FA 293 f293 18:=MA call293 func293
instance:FA 294 f294 172:=MA call294 func294
instance:FA 295 f295 125:=MA call295 func295
instance:FA 296 f296 16:=MA call296 func296
instance:FA 304 f304 4:=MA call304 func304
instance:FA 305 f305 32:=MA call305 func305
instance:FA 306 f306 42:=MA call306 func306
instance:FA 307 f307 17:=MA call307 func307
instance:FA 308 f308 49:=MA call308 func308
instance:FA 309 f309 22:=MA call309 func309
instance:FA 310 f310 21:=MA call310 func310
instance:FA 311 f311 29:=MA call311 func311
instance:FA 312 f312 9:=MA call312 func312
instance:FA 313 f313 15:=MA call313 func313
instance:FA 314 f314 19:=MA call314 func314
instance:FA 315 f315 29:=MA call315 func315
instance:FA 316 f316 26:=MA call316 func316
instance:FA 317 f317 6:=MA call317 func317
instance:FA 318 f318 18:=MA call318 func318
instance:FA 319 f319 20:=MA call319 func319
instance:FA 320 f320 20:=MA call320 func320
instance:FA 321 f321 22:=MA call321 func321
instance:FA 322 f322 9:=MA call322 func322
instance:FA 323 f323 30:=MA call323 func323
instance:FA 324 f324 29:=MA call324 func324
instance:FA 325 f325 22:=MA call325 func325
instance:FA 326 f326 38:=MA call326 func326
instance:FA 327 f327 36:=MA call327 func327
instance:FA 328 f328 122:=MA call328 func328
instance:FA 329 f329 35:=MA call329 func329
instance:FA 330 f330 9:=MA call330 func330
instance:FA 331 f331 10:=MA call331 func331
instance:FA 332 f332 20:=MA call332 func332
instance:FA 333 f333 8:=MA call333 func333
instance:FA 334 f334 37:=MA call334 func334
instance:FA 335 f335 42:=MA call335 func335
instance:FA 336 f336 57:=MA call336 func336
instance:FA 337 f337 9:=MA call337 func337
instance:FA 338 f338 10:=MA call338 func338
instance:FA 339 f339 19:=MA call339 func339
instance:FA 340 f340 36:=MA call340 func340
instance:FA 341 f341 4:=MA call341 func341
instance:FA 342 f342 9:=MA call342 func342
instance:FA 347 f347 10:=MA call347 func347
instance:FA 351 f351 11:=MA call351 func351
instance:FA 352 f352 11:=MA call352 func352
instance:FA 359 f359 8:=MA call359 func359
instance:FA 360 f360 8:=MA call360 func360
instance:FA 361 f361 13:=MA call361 func361
instance:FA 364 f364 63:=MA call364 func364
instance:FA 365 f365 8:=MA call365 func365
instance:FA 366 f366 7:=MA call366 func366
instance:FA 367 f367 8:=MA call367 func367
instance:FA 368 f368 15:=MA call368 func368
instance:FA 369 f369 19:=MA call369 func369
instance:FA 370 f370 5:=MA call370 func370
instance:FA 371 f371 5:=MA call371 func371
instance:FA 372 f372 30:=MA call372 func372
instance:FA 373 f373 21:=MA call373 func373
instance:FA 374 f374 36:=MA call374 func374
instance:FA 375 f375 34:=MA call375 func375
instance:FA 376 f376 40:=MA call376 func376
instance:FA 377 f377 4:=MA call377 func377
instance:FA 378 f378 14:=MA call378 func378
instance:FA 379 f379 12:=MA call379 func379
instance:FA 380 f380 4:=MA call380 func380
instance:FA 381 f381 14:=MA call381 func381
instance:FA 383 f383 19:=MA call383 func383
instance:FA 384 f384 17:=MA call384 func384
instance:FA 385 f385 53:=MA call385 func385
instance:FA 386 f386 9:=MA call386 func386
instance:FA 387 f387 42:=MA call387 func387
instance:FA 388 f388 24:=MA call388 func388
instance:FA 389 f389 18:=MA call389 func389
instance:FA 390 f390 5:=MA call390 func390
instance:FA 392 f392 30:=MA call392 func392
instance:FA 393 f393 8:=MA call393 func393
instance:FA 396 f396 14:=MA call396 func396
instance:FA 397 f397 13:=MA call397 func397
instance:FA 398 f398 33:=MA call398 func398
instance:FA 399 f399 8:=MA call399 func399
instance:FA 400 f400 9:=MA call400 func400
instance:FA 401 f401 29:=MA call401 func401
instance:FA 402 f402 6:=MA call402 func402
instance:FA 403 f403 6:=MA call403 func403
instance:FA 404 f404 20:=MA call404 func404
instance:FA 405 f405 8:=MA call405 func405
instance:FA 406 f406 37:=MA call406 func406
instance:FA 407 f407 33:=MA call407 func407
instance:FA 408 f408 30:=MA call408 func408
instance:FA 409 f409 13:=MA call409 func409
instance:FA 410 f410 10:=MA call410 func410
instance:FA 411 f411 16:=MA call411 func411
instance:FA 412 f412 31:=MA call412 func412
instance:FA 413 f413 9:=MA call413 func413
instance:FA 414 f414 63:=MA call414 func414
instance:FA 415 f415 6:=MA call415 func415
instance:FA 416 f416 19:=MA call416 func416
instance:FA 417 f417 21:=MA call417 func417
instance:FA 418 f418 42:=MA call418 func418
instance:FA 419 f419 4:=MA call419 func419
instance:FA 420 f420 63:=MA call420 func420
instance:FA 421 f421 29:=MA call421 func421
instance:FA 422 f422 58:=MA call422 func422
instance:FA 423 f423 19:=MA call423 func423
instance:CF ab 427:=⟨call427⟩
instance:FA 430 f430 14:=MA call430 func430
instance:FA 441 f441 53:=MA call441 func441
instance:FA 442 f442 220:=MA call442 func442
instance:FA 444 f444 13:=MA call444 func444
instance:FA 445 f445 33:=MA call445 func445
instance:FA 446 f446 16:=MA call446 func446
instance:FA 447 f447 9:=MA call447 func447
instance:FA 448 f448 42:=MA call448 func448
instance:FA 449 f449 36:=MA call449 func449
instance:FA 450 f450 14:=MA call450 func450
instance:FA 451 f451 5:=MA call451 func451
instance:CF ab 452:=⟨call452⟩
instance:FA 453 f453 14:=MA call453 func453
instance:FA 462 f462 19:=MA call462 func462
instance:FA 464 f464 51:=MA call464 func464
instance:FA 466 f466 35:=MA call466 func466
instance:FA 467 f467 16:=MA call467 func467
instance:FA 468 f468 6:=MA call468 func468
instance:FA 470 f470 67:=MA call470 func470
instance:FA 471 f471 53:=MA call471 func471
instance:FA 472 f472 220:=MA call472 func472
instance:FA 473 f473 5:=MA call473 func473
instance:FA 474 f474 8:=MA call474 func474
instance:FA 475 f475 14:=MA call475 func475
instance:FA 476 f476 53:=MA call476 func476
instance:FA 477 f477 220:=MA call477 func477
instance:FA 484 f484 58:=MA call484 func484
instance:FA 485 f485 13:=MA call485 func485
instance:FA 494 f494 19:=MA call494 func494
instance:FA 495 f495 5:=MA call495 func495
instance:FA 496 f496 58:=MA call496 func496
instance:FA 498 f498 58:=MA call498 func498
instance:FA 500 f500 38:=MA call500 func500
instance:FA 512 f512 38:=MA call512 func512
instance:FA 513 f513 38:=MA call513 func513
end Go.Proofs
namespace Go.Proofs
open Go.Sl
set_option maxRecDepth 8000
instance:PL ab:=⟨by rfl⟩
def ad5(l:List UInt8)(v:Value)(B:List az):Prop:=∃a c,v=.slice a l.length c/\B=[own 5 1 a l.length c (l.map fO)]
def rQ(x:UInt64):Value:=.int .u64 x.toNat
def Rj(x:UInt32):Value:=.int .u32 x.toNat
def aX(x:Int):Value:=.int .i64 x
@[reducible] def bt4:Rp UInt64:=bp λx=>[rQ x]
structure nW(q:Prop):Prop where out:q
theorem xS{p q:Prop}(k:q)(h:nW q->p:=by(intro hq;(repeat(first|refine X.go 60 rfl rfl ?_|(show X _ _ _ (some (_,⟨_,.load _ _,_,_,_,_⟩::_)) _ _ _ _;first|refine be5 rfl rfl rfl iA ?_|refine Pr rfl rfl rfl iA ?_|refine bb9 rfl rfl rfl iA ?_)|(show X _ _ _ (some (_,⟨_,.binOp _ _ _ _ _,_,_,_,_⟩::_)) _ _ _ _;first|refine X.add rfl rfl rfl rfl av av ?_|refine X.sub rfl rfl rfl rfl av av ?_|refine Pq rfl rfl rfl rfl rfl de ?_|refine aR3 rfl rfl rfl rfl rfl rfl ?_|refine X.seq rfl rfl rfl rfl ?_|refine be3 rfl rfl rfl rfl ?_|refine aU3 rfl rfl rfl rfl rfl ?_|refine bc1 rfl rfl rfl rfl (by first|omega|(simp;omega)) ?_|refine X.mul rfl rfl rfl rfl av av ?_|refine aS9 rfl rfl rfl rfl rfl ?_|refine bc0 rfl rfl rfl rfl rfl ?_|refine aT1 rfl rfl rfl rfl rfl ?_)|(show X _ _ _ (some (_,⟨_,.fieldAddr _ _ _,_,_,_,_⟩::_)) _ _ _ _;first|refine X.fa rfl rfl rfl ?_)|(show X _ _ _ (some (_,⟨_,.call ⟨.builtin _,_,_⟩,_,_,_,_⟩::_)) _ _ _ _;first|refine aS7 rfl rfl rfl ?_|refine UR rfl rfl rfl ?_|refine aS4 rfl rfl rfl rfl ?_|refine aS5 rfl rfl rfl rfl ?_)|(show X _ _ _ (some (_,⟨_,.call ⟨.value _,_,_⟩,_,_,_,_⟩::_)) _ _ _ _;first|refine Cc hG rfl rfl rfl ?_)|(show X _ _ _ (some (_,⟨_,.field _ _ _,_,_,_,_⟩::_)) _ _ _ _;first|refine bd2 rfl rfl rfl iA ?_|refine aT5 rfl rfl rfl iA ?_)|(show X _ _ _ (some (_,⟨_,.store _ _ _,_,_,_,_⟩::_)) _ _ _ _;first|refine X.st rfl rfl rfl rfl iA iA iA ?_)|(show X _ _ _ (some (_,⟨_,.pick _ _ _,_,_,_,_⟩::_)) _ _ _ _;first|refine ab3 rfl rfl rfl rfl ?_|refine aa7 rfl rfl rfl rfl ?_)|(show X _ _ _ (some (_,⟨_,.unOp _ _ _,_,_,_,_⟩::_)) _ _ _ _;first|refine bt3 rfl rfl rfl rfl ?_)|(show X _ _ _ (some (_,⟨_,.convert _ _ _,_,_,_,_⟩::_)) _ _ _ _;first|refine aU1 rfl rfl rfl ?_|refine aU2 rfl rfl rfl (by first|assumption|(simp;done)|omega) ?_)|(show X _ _ _ (some (_,⟨_,.build _ _,_,_,_,_⟩::_)) _ _ _ _;first|refine be9 rfl rfl rfl iA ?_)|(show X _ _ _ (some (_,⟨_,_,_,_,_,some _⟩::_)) _ _ _ _;first|refine aa6 rfl rfl ?_|refine aS6 rfl rfl rfl ?_)|(show X _ _ _ none (.it (.code (.exit _)::_)) _ _ _;first|refine X.exit rfl ?_)|(show X _ _ _ none (.it (.code (.cond _ _ _)::_)) _ _ _;first|refine HM rfl ?_|refine Cd rfl ?_)|(show X _ _ _ none (.dr _ _ _ _ _) _ _ _;first|refine mr rfl rfl rfl rfl ?_|refine HO rfl rfl ?_)|(show X _ _ _ none (.sw _ _ _ _ _ _) _ _ _;first|refine X.sw ?_|refine aT0 rfl ?_)|refine X.go 7 rfl rfl ?_|refine X.go 1 rfl rfl ?_));exact hq.out)):p:=h ⟨k⟩
end Go.Proofs
namespace Go.Sl
theorem Py{P:Program}{G:bZ}{f n:Nat}{c:Code}[hf:FC P f n c]{A:List az}{R:Ending->List az->Prop}(h:∀b β,mi b f->G.on β->X P b β none (.it [.code c]) ⟨n,ym 0 [],[]⟩ A R):TR P G f #[] A R:=TR.go (us:=[]) (al _) h
theorem cg{P:Program}{G:bZ}{f n:Nat}{c:Code}[hf:FC P f n c]{a:Value}{A:List az}{R:Ending->List az->Prop}(e:Nat.ble 1 n=true)(h:∀b β,mi b f->G.on β->X P b β none (.it [.code c]) ⟨n,ym 0 [a],[]⟩ A R):TR P G f #[a] A R:=TR.go (us:=[a]) (aI e) h
theorem aW{P:Program}{G:bZ}{f n:Nat}{c:Code}[hf:FC P f n c]{a a2:Value}{A:List az}{R:Ending->List az->Prop}(e:Nat.ble 2 n=true)(h:∀b β,mi b f->G.on β->X P b β none (.it [.code c]) ⟨n,ym 0 [a,a2],[]⟩ A R):TR P G f #[a,a2] A R:=TR.go (us:=[a,a2]) (aI e) h
theorem jr{P:Program}{G:bZ}{f n:Nat}{c:Code}[hf:FC P f n c]{a a2 a3:Value}{A:List az}{R:Ending->List az->Prop}(e:Nat.ble 3 n=true)(h:∀b β,mi b f->G.on β->X P b β none (.it [.code c]) ⟨n,ym 0 [a,a2,a3],[]⟩ A R):TR P G f #[a,a2,a3] A R:=TR.go (us:=[a,a2,a3]) (aI e) h
theorem bw{P:Program}{b:Frame}{β:bS}{k:Kt}{N:Nat}{vs:List (Nat×Value)}{ds:List Deferred}{Hs:List az}{R:Ending->List az->Prop}{ops:Array Oper}{rest:List Oper}{d ty:Nat}{pos:String}{af:Array Edge}{g:Option (Nat×Bool)}[hk:Kt.nU k]{G:bZ}{f:Nat}{xs:List Operand}{us:List Value}{qW:Array TypeId}{A F:List az}{Q:Value->List az->Prop}(hT:TR P G f us.toArray A (cb Q))[rH:CF P f]
 (h:∀v B,Q v B->X P b β (some (ops,rest)) k ⟨N,(d,v)::vs,ds⟩ (B++F) R)(hG:G.on β:=by exact hG)
 (hw:aJ ops vs ⟨some d,.call ⟨.value (.func f),xs.toArray,qW⟩,ty,pos,af,g⟩=some true:=by exact U)(hn:aH d N=true:=by exact U)
 (hx:nk vs xs=some us:=by exact U)(hA:aN Hs (A++F):=by first|exact aN.es|exact iv|exact aN.refl _):
 X P b β (some (ops,⟨some d,.call ⟨.value (.func f),xs.toArray,qW⟩,ty,pos,af,g⟩::rest)) k ⟨N,vs,ds⟩ Hs R:=ei hG hT hw hn hx hA h
theorem X.W{P:Program}{b:Frame}{β:bS}{k:Kt}{N:Nat}{vs zH:List (Nat×Value)}{ds:List Deferred}{Hs Hs':List az}{R:Ending->List az->Prop}{c:Option (Array Oper×List Oper)}(h:X P b β c k ⟨N,zH,ds⟩ Hs' R)
 (hv:Sub zH vs:=by first|exact Sub.of rfl|(repeat(first|exact Sub.nil _|refine Sub.cons rfl ?_|refine Sub.cons (eN rfl (by simp[aX])) ?_|refine Sub.cons (eN rfl (by omega)) ?_|refine Sub.cons (eN rfl (by simp[aX];omega)) ?_)))
 (hH:aN Hs Hs':=by first|exact ay|exact aN.refl _):X P b β c k ⟨N,vs,ds⟩ Hs R:=X.less h hv hH
theorem bO{P:Program}{b:Frame}{β:bS}{N:Nat}{vs:List (Nat×Value)}{Hs:List az}{R:Ending->List az->Prop}{k:List Item}{f:Nat}{rs:List ResultVar}(l9:mi b f)[hf:FR P f rs]{l:List Value}(hl:jK P ⟨N,vs,[]⟩ Hs rs l){B:List az}(h:R (.returned (lx l)) B)(hE:aN Hs B:=by first|exact ay|exact aN.nil _|exact aN.refl _):X P b β none (.it (.code .ret::k)) ⟨N,vs,[]⟩ Hs R:=X.ret l9 hl ⟨_,h,hE⟩
end Go.Sl
namespace Go.Proofs
open Go.Sl
structure Vo{α:Type}(l:α)(q:Prop):Prop where out:q
abbrev Vp{α:Type}{l:α}{q:Prop}(_:Vo l q):α:=l
theorem xD{p q:Prop}(k:q)(h:nW q->p:=by(intro hq;dsimp only[ae,ai,ah];refine xS ?_;exact hq.out)):p:=h ⟨k⟩
theorem s1_{m:List (Nat×Value)}{a:Nat}{q:Value}(h0:lk m a=some q):Sub [(a,q)] m:=Sub.cons h0 (Sub.nil _)
theorem s2_{m:List (Nat×Value)}{a b:Nat}{q r:Value}(h0:lk m a=some q)(h1:lk m b=some r):Sub [(a,q),(b,r)] m:=Sub.cons h0 (Sub.cons h1 (Sub.nil _))
theorem s3_{m:List (Nat×Value)}{a b c:Nat}{q r s:Value}(h0:lk m a=some q)(h1:lk m b=some r)(h2:lk m c=some s):Sub [(a,q),(b,r),(c,s)] m:=Sub.cons h0 (Sub.cons h1 (Sub.cons h2 (Sub.nil _)))
theorem EL{m:List (Nat×Value)}{a b c d:Nat}{q r s t:Value}(h0:lk m a=some q)(h1:lk m b=some r)(h2:lk m c=some s)(h3:lk m d=some t):Sub [(a,q),(b,r),(c,s),(d,t)] m:=Sub.cons h0 (Sub.cons h1 (Sub.cons h2 (Sub.cons h3 (Sub.nil _))))
theorem Y7{m:List (Nat×Value)}{a b c d e:Nat}{q r s t u:Value}(h0:lk m a=some q)(h1:lk m b=some r)(h2:lk m c=some s)(h3:lk m d=some t)(h4:lk m e=some u):Sub [(a,q),(b,r),(c,s),(d,t),(e,u)] m:=Sub.cons h0 (Sub.cons h1 (Sub.cons h2 (Sub.cons h3 (Sub.cons h4 (Sub.nil _)))))
theorem YX{m:List (Nat×Value)}{a b c d e f:Nat}{q r s t u v:Value}(h0:lk m a=some q)(h1:lk m b=some r)(h2:lk m c=some s)(h3:lk m d=some t)(h4:lk m e=some u)(h5:lk m f=some v):Sub [(a,q),(b,r),(c,s),(d,t),(e,u),(f,v)] m:=Sub.cons h0 (Sub.cons h1 (Sub.cons h2 (Sub.cons h3 (Sub.cons h4 (Sub.cons h5 (Sub.nil _))))))
theorem s7_{m:List (Nat×Value)}{a b c d e f g:Nat}{q r s t u v w:Value}(h0:lk m a=some q)(h1:lk m b=some r)(h2:lk m c=some s)(h3:lk m d=some t)(h4:lk m e=some u)(h5:lk m f=some v)(h6:lk m g=some w):Sub [(a,q),(b,r),(c,s),(d,t),(e,u),(f,v),(g,w)] m:=Sub.cons h0 (Sub.cons h1 (Sub.cons h2 (Sub.cons h3 (Sub.cons h4 (Sub.cons h5 (Sub.cons h6 (Sub.nil _)))))))
theorem s8_{m:List (Nat×Value)}{a b c d e f g h:Nat}{q r s t u v w x:Value}(h0:lk m a=some q)(h1:lk m b=some r)(h2:lk m c=some s)(h3:lk m d=some t)(h4:lk m e=some u)(h5:lk m f=some v)(h6:lk m g=some w)(h7:lk m h=some x):Sub [(a,q),(b,r),(c,s),(d,t),(e,u),(f,v),(g,w),(h,x)] m:=Sub.cons h0 (Sub.cons h1 (Sub.cons h2 (Sub.cons h3 (Sub.cons h4 (Sub.cons h5 (Sub.cons h6 (Sub.cons h7 (Sub.nil _))))))))
theorem s9_{m:List (Nat×Value)}{a b c d e f g h i:Nat}{q r s t u v w x y:Value}(h0:lk m a=some q)(h1:lk m b=some r)(h2:lk m c=some s)(h3:lk m d=some t)(h4:lk m e=some u)(h5:lk m f=some v)(h6:lk m g=some w)(h7:lk m h=some x)(h8:lk m i=some y):Sub [(a,q),(b,r),(c,s),(d,t),(e,u),(f,v),(g,w),(h,x),(i,y)] m:=Sub.cons h0 (Sub.cons h1 (Sub.cons h2 (Sub.cons h3 (Sub.cons h4 (Sub.cons h5 (Sub.cons h6 (Sub.cons h7 (Sub.cons h8 (Sub.nil _)))))))))
theorem ad8{m:List (Nat×Value)}{a b c d e f g h i j:Nat}{q r s t u v w x y z:Value}(h0:lk m a=some q)(h1:lk m b=some r)(h2:lk m c=some s)(h3:lk m d=some t)(h4:lk m e=some u)(h5:lk m f=some v)(h6:lk m g=some w)(h7:lk m h=some x)(h8:lk m i=some y)(h9:lk m j=some z):Sub [(a,q),(b,r),(c,s),(d,t),(e,u),(f,v),(g,w),(h,x),(i,y),(j,z)] m:=Sub.cons h0 (Sub.cons h1 (Sub.cons h2 (Sub.cons h3 (Sub.cons h4 (Sub.cons h5 (Sub.cons h6 (Sub.cons h7 (Sub.cons h8 (Sub.cons h9 (Sub.nil _))))))))))
theorem xR{p:Prop}(h:p:=by refine xS ?_;exact bO hb (.tmps U) ⟨U,U⟩):p:=h
theorem xF{p:Prop}(h:p:=by refine xS ?_;exact X.fin hb (.tmps U) ⟨_,⟨U,U⟩,ay⟩):p:=h
theorem xL(l:List Nat){p q:Prop}(k:q)(h:Vo l q->p:=by(intro hq;apply cW (Vp hq) U U U;(intro p hp;refine xS ?_;exact hp);rfl;rfl;dsimp only[Vp];exact hq.out)):p:=h ⟨k⟩
theorem xC{r p q:Prop}(t:r)(k:q)(h:nW r->nW q->p:=by(intro ht hq;refine xS ?_;refine bw ht.out ?_;rintro _ _ ⟨rfl,rfl⟩;refine xS ?_;exact hq.out)):p:=h ⟨t⟩ ⟨k⟩
theorem xK{r p q:Prop}(t:r)(k:q)(h:nW r->nW q->p:=by(intro ht hq;refine xS ?_;refine ei hG ht.out U U U iv ?_;rintro _ _ ⟨rfl,rfl⟩;refine xS ?_;exact hq.out)):p:=h ⟨t⟩ ⟨k⟩
theorem xE{r p q:Prop}(t:r)(k:q)(h:nW r->nW q->p:=by(intro ht hq;refine xS ?_;refine bw ht.out ?_;rintro _ _ ⟨rfl,rfl⟩;refine xD ?_;exact hq.out)):p:=h ⟨t⟩ ⟨k⟩
theorem xO{r p q:Prop}(t:r)(k:q)(h:nW r->nW q->p:=by(intro ht hq;refine xS ?_;refine ei hG ht.out U U U iv ?_;rintro _ _ ⟨rfl,rfl⟩;refine xD ?_;exact hq.out)):p:=h ⟨t⟩ ⟨k⟩
theorem xH{r p q:Prop}(t:r)(k:q)(h:nW r->nW q->p:=by(intro ht hq;refine xS ?_;refine bw ht.out ?_;rintro _ _ ⟨rfl,rfl⟩;dsimp only[ae,ai,ah];exact hq.out)):p:=h ⟨t⟩ ⟨k⟩
theorem xQ{r p q:Prop}(t:r)(k:q)(h:nW r->nW q->p:=by(intro ht hq;refine xS ?_;refine ei hG ht.out U U U iv ?_;rintro _ _ ⟨rfl,rfl⟩;dsimp only[ae,ai,ah];exact hq.out)):p:=h ⟨t⟩ ⟨k⟩
theorem xI{r p q:Prop}(t:r)(k:q)(h:nW r->nW q->p:=by(intro ht hq;refine xS ?_;refine bw ht.out ?_;rintro _ _ ⟨rfl,rfl⟩;exact hq.out)):p:=h ⟨t⟩ ⟨k⟩
theorem xU{r p q:Prop}(t:r)(k:q)(h:nW r->nW q->p:=by(intro ht hq;refine xS ?_;refine ei hG ht.out U U U iv ?_;rintro _ _ ⟨rfl,rfl⟩;exact hq.out)):p:=h ⟨t⟩ ⟨k⟩
theorem xT(d:Nat){p q r:Prop}(k:q)(l:r)(h:Vo d q->nW r->p:=by(intro hq hr;refine xS ?_;refine HH (Vp hq) U ?_ ?_;(dsimp only[Vp];exact hq.out);(dsimp only[Vp];exact hr.out))):p:=h ⟨k⟩ ⟨l⟩
theorem xJ{r p q:Prop}(t:r)(k:q)(h:nW r->nW q->p:=by(intro ht hq;refine xS ?_;refine vn hG ht.out U U U ?_;refine xS ?_;exact hq.out)):p:=h ⟨t⟩ ⟨k⟩
theorem xB{p q r:Prop}(k:q)(l:r)(h:nW q->nW r->p:=by(intro hq hr;refine xS ?_;refine X.cond U ?_ ?_;exact hq.out;exact hr.out)):p:=h ⟨k⟩ ⟨l⟩
theorem xW{r p:Prop}(t:r)(h:nW r->p:=by(intro hq;refine xS ?_;exact X.W hq.out)):p:=h ⟨t⟩
theorem xA{p q:Prop}(k:q)(h:nW q->p:=by(intro hq;refine xS ?_;refine jC U U ?_;intro b;refine xS ?_;revert b;exact hq.out)):p:=h ⟨k⟩
theorem xP{p q:Prop}(k:q)(h:nW q->p:=by(intro hq;refine xS ?_;refine X.box U U U U ?_;intro b;refine xS ?_;revert b;exact hq.out)):p:=h ⟨k⟩
theorem xZ{p q:Prop}(k:q)(h:nW q->p:=by(intro hq;refine xS ?_;refine lB U U (by rfl) (by rfl) (by rfl) (by rfl) (by rfl) (by rfl) ?_;intro b;refine xS ?_;revert b;exact hq.out)):p:=h ⟨k⟩
end Go.Proofs
namespace Go.Proofs
open Go.Sl
set_option maxRecDepth 8000
section
variable(d t:Nat)(G:bZ)(f:Nat)(cap:List Value)(A:List az)(p bm:Nat)(M:List ((List UInt8)×Value))
def mY(x y:Int):Int:=if x<y then -1 else if x>y then 1 else 0
def JT(x y:List UInt8):Int:=if Op.bytesLess x y then -1 else if !(Op.bytesLess x y||x==y)then 1 else 0
theorem Gp(x:Int):TR ab G 402 #[.int .u64 x] [] (cT (.bool false)):=aG7
theorem Ro(x y:Int):TR ab G 319 #[.int .u64 x,.int .u64 y] [] (cT (aX (mY x y))):=by
 refine aW U λb β hb hG=>xS ?_;refine ei hG (Gp G x) U U U (A:=[]) (F:=[]) (aN.refl _) ?_;rintro _ _ ⟨rfl,rfl⟩;refine xS ?_;refine ei hG (Gp G y) U U U (A:=[]) (F:=[]) (aN.refl _) ?_;exact E3
theorem Gq(x:Int):TR ab G 415 #[.int .u32 x] [] (cT (.bool false)):=aG7
theorem Gr(x y:Int):TR ab G 332 #[.int .u32 x,.int .u32 y] [] (cT (aX (mY x y))):=by
 refine aW U λb β hb hG=>xS ?_;refine ei hG (Gq G x) U U U (A:=[]) (F:=[]) (aN.refl _) ?_;rintro _ _ ⟨rfl,rfl⟩;refine xS ?_;refine ei hG (Gq G y) U U U (A:=[]) (F:=[]) (aN.refl _) ?_;exact E3
theorem Gs(x:Int):TR ab G 468 #[.int .i64 x] [] (cT (.bool false)):=aG7
theorem z8(x y:Int):TR ab G 404 #[.int .i64 x,.int .i64 y] [] (cT (aX (mY x y))):=by
 refine aW U λb β hb hG=>xS ?_;refine ei hG (Gs G x) U U U (A:=[]) (F:=[]) (aN.refl _) ?_;rintro _ _ ⟨rfl,rfl⟩;refine xS ?_;refine ei hG (Gs G y) U U U (A:=[]) (F:=[]) (aN.refl _) ?_;exact E3
theorem Gt(x:List UInt8):TR ab G 403 #[ao x] [] (cT (.bool false)):=aG7
theorem Rq(x y:List UInt8):TR ab G 320 #[ao x,ao y] [] (cT (aX (JT x y))):=by
 refine aW U λb β hb hG=>xS ?_;refine ei hG (Gt G x) U U U (A:=[]) (F:=[]) (aN.refl _) ?_;rintro _ _ ⟨rfl,rfl⟩;refine xS ?_;refine ei hG (Gt G y) U U U (A:=[]) (F:=[]) (aN.refl _) ?_;rintro _ _ ⟨rfl,rfl⟩;refine xB ?_ ?_<;>intro h1
 ·refine xS ?_;exact bO hb (.tmps U) ⟨by grind [lx,aX,JT],U⟩
 ·refine xB ?_ ?_<;>intro h2
  ·refine xS ?_
   refine bO hb (.tmps U) ⟨?_,U⟩
   grind [lx,aX,JT]
  ·refine xS ?_
   refine bO hb (.tmps U) ⟨?_,U⟩
   grind [lx,aX,JT]
def Ub:List Int->Int
 |[]=>0
 |x::r=>if x≠0 then x else Ub r
theorem JU(l:List Int)(i:Nat)(h:i<l.length):Ub (l.drop i)=if l[i]≠0 then l[i]else Ub (l.drop (i+1)):=by
 rw[aP h,Ub]
@[reducible] def RI:Rp Int:=bp λx=>[aX x]
theorem Vs(a:Option Addr)(n c:Nat)(xs:List Int)(hn:xs.length=n)(hs:n<=1099511627776):
 TR ab G 318 #[.slice a n c] [bV RI 1 a xs] (cT (aX (Ub xs))):=by
 refine cg U λb β hb hG=>xS ?_
 refine eT [3,6,7] [] (ι:={i:Nat // i<=n/\Ub xs=Ub (xs.drop i)}) (λi q_=>(8,.int .i64 i.1)::q_) (λi q_=>q_) (λi=>n - i.1) ⟨0,al _,U⟩ ?_
 rintro⟨i,hi,hE⟩ ih
 dsimp only
 refine xB ?_ ?_<;>intro h
 ·have hi:i<xs.length:=by simp at h;omega
  refine xS ?_;refine cH U U U U U hi hn λbl o=>xS ?_;rw[show aX xs[i]=.int .i64 xs[i]from rfl];refine xB ?_ ?_<;>intro h2
  ·refine xS ?_
   refine bO hb (.tmps U) ⟨?_,U⟩
   grind [JU,lx,aX]
  ·refine xS ?_
   have h3:xs[i]=0:=FG
   refine X.less (ih ⟨i+1,by omega,?_⟩ gm) (Sub.of U) (aN.drop _ _)
   grind [JU]
 ·have fw:i=n:=by simp at h;omega
  subst fw;refine xS ?_;refine bO hb (.tmps U) ⟨?_,U⟩;rw[hE,bc av];rfl
structure Place where
 qK:UInt32
 at_:Int
 len:Int
deriving DecidableEq
@[reducible] def Place.cs(p:Place):List Value:=[.int .u32 p.qK.toNat,.int .i64 p.at_,.int .i64 p.len]
@[reducible] def Place.v(p:Place):Value:=.agg p.cs.toArray
def sL(p q:Place):Int:=Ub [mY p.qK.toNat q.qK.toNat,mY p.at_ q.at_,mY p.len q.len]
theorem Da(p q:Place):TR ab G 321 #[p.v,q.v] [] (cT (aX (sL p q))):=by
 refine aW U λb β hb hG=>xS ?_;refine X.box U U U U λb1=>?_;refine xP ?_;intro b2;refine nR [0,1,2,3,5,6,7,8,10,11,12,13] [1,0] ?_;refine xL [0,1,2,3,5,6,7,8,10,11,12,13] ?_;refine xJ (Gr G _ _) ?_;refine xJ (z8 G _ _) ?_;refine xJ (z8 G _ _) ?_;refine xZ ?_;intro b3;refine iu b3 (λx=>[aX x]) [mY p.qK.toNat q.qK.toNat,mY p.at_ q.at_,mY p.len q.len] U (λ_=>rfl) ?_;refine xJ (Vs G _ _ _ [mY p.qK.toNat q.qK.toNat,mY p.at_ q.at_,mY p.len q.len] U nH) ?_;exact xR
theorem oD{α:Type}:∀(l:List α) (i:Nat) (h:i<l.length),(l[i]::l.eraseIdx i).Perm l
 |[],i,h=>by cases h
 |x::r,0,_=>fR _
 |x::r,i+1,h=>by
  have hr:i<r.length:=BU;simp only[dJ,List.eraseIdx_cons_succ];exact(eu _ _ _).trans (fS _ (oD r i hr))
theorem Vt:TR ab G 164 #[.map (some bm)] [] (cb λv B=>∃p,v=.func (.func 259) #[] #[au p]/\B=[bx p 72 [.map (some bm)]]):=Ka
theorem Vv:
 z7 ab G 259 [au p] [bx p 72 [.map (some bm)],mp ao bm M] (λk:(List UInt8)=>[ao k]) (λpre=>∃post,(pre++post).Perm (M.map (·.1))) (λys=>ys.Perm (M.map (·.1))):=by
 refine z7.mk λl I J hY=>?_
 refine aW U λb β hb hG=>xD ?_
 refine rh U U U λr=>xS ?_
 refine eT [0,5] [0,1] (ι:={q:List (List UInt8)×List ((List UInt8)×Value)×Option ((List UInt8)×Value) // (q.1++q.2.1.map (·.1)).Perm (M.map (·.1))}) (λq q_=>q_) (λq q_=>FF ao r bm M q.1.2.1 q.1.2.2::I q.1.1::q_) (λq=>q.1.2.1.length) ⟨([],M,none),fR _⟩ ?_
 rintro⟨⟨pre,S,ko⟩,hq⟩ ih
 dsimp only at hq ih ⊢
 refine xS ?_
 refine wk U U U (λhS=>?_) (λi hi=>?_)
 ·exact bu3
 ·exact mz1
theorem Vw:TR ab G 162 #[.map (some bm)] [] (cb λv B=>∃p,v=.func (.func 257) #[] #[au p]/\B=[bx p 246 [.map (some bm)]]):=Ka
theorem Vx:
 z7 ab G 257 [au p] [bx p 246 [.map (some bm)],mp ao bm M] (λk:(List UInt8)=>[ao k]) (λpre=>∃post,(pre++post).Perm (M.map (·.1))) (λys=>ys.Perm (M.map (·.1))):=by
 refine z7.mk λl I J hY=>?_
 refine aW U λb β hb hG=>xD ?_
 refine rh U U U λr=>xS ?_
 refine eT [0,5] [0,1] (ι:={q:List (List UInt8)×List ((List UInt8)×Value)×Option ((List UInt8)×Value) // (q.1++q.2.1.map (·.1)).Perm (M.map (·.1))}) (λq q_=>q_) (λq q_=>FF ao r bm M q.1.2.1 q.1.2.2::I q.1.1::q_) (λq=>q.1.2.1.length) ⟨([],M,none),fR _⟩ ?_
 rintro⟨⟨pre,S,ko⟩,hq⟩ ih
 dsimp only at hq ih ⊢
 refine xS ?_
 refine wk U U U (λhS=>?_) (λi hi=>?_)
 ·exact bu3
 ·exact mz1
theorem Vy:TR ab G 284 #[.map (some bm)] [] (cb λv B=>∃p,v=.func (.func 381) #[] #[au p]/\B=[bx p 286 [.map (some bm)]]):=Ka
theorem Vz:
 z7 ab G 381 [au p] [bx p 286 [.map (some bm)],mp ao bm M] (λk:(List UInt8)=>[ao k]) (λpre=>∃post,(pre++post).Perm (M.map (·.1))) (λys=>ys.Perm (M.map (·.1))):=by
 refine z7.mk λl I J hY=>?_
 refine aW U λb β hb hG=>xD ?_
 refine rh U U U λr=>xS ?_
 refine eT [0,5] [0,1] (ι:={q:List (List UInt8)×List ((List UInt8)×Value)×Option ((List UInt8)×Value) // (q.1++q.2.1.map (·.1)).Perm (M.map (·.1))}) (λq q_=>q_) (λq q_=>FF ao r bm M q.1.2.1 q.1.2.2::I q.1.1::q_) (λq=>q.1.2.1.length) ⟨([],M,none),fR _⟩ ?_
 rintro⟨⟨pre,S,ko⟩,hq⟩ ih
 dsimp only at hq ih ⊢
 refine xS ?_
 refine wk U U U (λhS=>?_) (λi hi=>?_)
 ·exact bu3
 ·exact mz1
theorem VA:TR ab G 304 #[.map (some bm)] [] (cb λv B=>∃p,v=.func (.func 396) #[] #[au p]/\B=[bx p 232 [.map (some bm)]]):=Ka
theorem VB:
 z7 ab G 396 [au p] [bx p 232 [.map (some bm)],mp ao bm M] (λk:(List UInt8)=>[ao k]) (λpre=>∃post,(pre++post).Perm (M.map (·.1))) (λys=>ys.Perm (M.map (·.1))):=by
 refine z7.mk λl I J hY=>?_
 refine aW U λb β hb hG=>xD ?_
 refine rh U U U λr=>xS ?_
 refine eT [0,5] [0,1] (ι:={q:List (List UInt8)×List ((List UInt8)×Value)×Option ((List UInt8)×Value) // (q.1++q.2.1.map (·.1)).Perm (M.map (·.1))}) (λq q_=>q_) (λq q_=>FF ao r bm M q.1.2.1 q.1.2.2::I q.1.1::q_) (λq=>q.1.2.1.length) ⟨([],M,none),fR _⟩ ?_
 rintro⟨⟨pre,S,ko⟩,hq⟩ ih
 dsimp only at hq ih ⊢
 refine xS ?_
 refine wk U U U (λhS=>?_) (λi hi=>?_)
 ·exact bu3
 ·exact mz1
theorem VC:TR ab G 419 #[.map (some bm)] [] (cb λv B=>∃p,v=.func (.func 475) #[] #[au p]/\B=[bx p 532 [.map (some bm)]]):=Ka
theorem VD:
 z7 ab G 475 [au p] [bx p 532 [.map (some bm)],mp ao bm M] (λk:(List UInt8)=>[ao k]) (λpre=>∃post,(pre++post).Perm (M.map (·.1))) (λys=>ys.Perm (M.map (·.1))):=by
 refine z7.mk λl I J hY=>?_
 refine aW U λb β hb hG=>xD ?_
 refine rh U U U λr=>xS ?_
 refine eT [0,5] [0,1] (ι:={q:List (List UInt8)×List ((List UInt8)×Value)×Option ((List UInt8)×Value) // (q.1++q.2.1.map (·.1)).Perm (M.map (·.1))}) (λq q_=>q_) (λq q_=>FF ao r bm M q.1.2.1 q.1.2.2::I q.1.1::q_) (λq=>q.1.2.1.length) ⟨([],M,none),fR _⟩ ?_
 rintro⟨⟨pre,S,ko⟩,hq⟩ ih
 dsimp only at hq ih ⊢
 refine xS ?_
 refine wk U U U (λhS=>?_) (λi hi=>?_)
 ·exact bu3
 ·exact mz1
theorem VE:TR ab G 380 #[.map (some bm)] [] (cb λv B=>∃p,v=.func (.func 453) #[] #[au p]/\B=[bx p 502 [.map (some bm)]]):=Ka
theorem VF(M:List (Place×Value)):
 z7 ab G 453 [au p] [bx p 502 [.map (some bm)],mp Place.v bm M] (λk:Place=>[Place.v k]) (λpre=>∃post,(pre++post).Perm (M.map (·.1))) (λys=>ys.Perm (M.map (·.1))):=by
 refine z7.mk λl I J hY=>?_
 refine aW U λb β hb hG=>xD ?_
 refine rh U U U λr=>xS ?_
 refine eT [0,5] [0,1] (ι:={q:List Place×List (Place×Value)×Option (Place×Value) // (q.1++q.2.1.map (·.1)).Perm (M.map (·.1))}) (λq q_=>q_) (λq q_=>FF Place.v r bm M q.1.2.1 q.1.2.2::I q.1.1::q_) (λq=>q.1.2.1.length) ⟨([],M,none),fR _⟩ ?_
 rintro⟨⟨pre,S,ko⟩,hq⟩ ih
 dsimp only at hq ih ⊢
 refine xS ?_
 refine wk U U U (λhS=>?_) (λi hi=>?_)
 ·exact bu3
 ·have hp:(pre++[S[i].1]++(S.eraseIdx i).map (·.1)).Perm (M.map (·.1)):=by
   grind [oD]
  refine xS ?_;refine zO U U U  ?_;refine xA ?_;intro z;refine rM hG (hY pre S[i].1 ⟨_,hp⟩) U U U U ?_ ?_
  ·exact aj1
  ·exact bh9
abbrev Bs:=List UInt8
structure Rec where
 eB:UInt64
 kind:Int
 key:Bs
 val:Bs
deriving DecidableEq
structure Ptr where
 eB:UInt64
 kind:Int
 at_:Int
 len:Int
 key:Bs
deriving DecidableEq
structure ZX where
 bytes:Int
 bz:Int
 sum:UInt32
deriving DecidableEq
structure Rt where
 count:Int
 print:ZX
deriving DecidableEq
structure mj where
 kind:Int
 kG:Rec
 ptr:Ptr
 fin:Rt
deriving DecidableEq
@[reducible] def Rec.cs(r:Rec):List Value:=[.int .u64 r.eB.toNat,.int .i64 r.kind,ao r.key,ao r.val]
@[reducible] def Ptr.cs(p:Ptr):List Value:=[.int .u64 p.eB.toNat,.int .i64 p.kind,.int .i64 p.at_,.int .i64 p.len,ao p.key]
@[reducible] def ZX.cs(p:ZX):List Value:=[.int .i64 p.bytes,.int .i64 p.bz,.int .u32 p.sum.toNat]
@[reducible] def Rt.cs(p:Rt):List Value:=[.int .i64 p.count,.int .i64 p.print.bytes,.int .i64 p.print.bz,.int .u32 p.print.sum.toNat]
@[reducible] def mj.cs(f:mj):List Value:=[.int .i64 f.kind,.int .u64 f.kG.eB.toNat,.int .i64 f.kG.kind,ao f.kG.key,ao f.kG.val,
 .int .u64 f.ptr.eB.toNat,.int .i64 f.ptr.kind,.int .i64 f.ptr.at_,.int .i64 f.ptr.len,ao f.ptr.key,
 .int .i64 f.fin.count,.int .i64 f.fin.print.bytes,.int .i64 f.fin.print.bz,.int .u32 f.fin.print.sum.toNat]
@[reducible] def Rec.zero:Rec:=⟨0,0,[],[]⟩
@[reducible] def Ptr.zero:Ptr:=⟨0,0,0,0,[]⟩
@[reducible] def ZX.zero:ZX:=⟨0,0,0⟩
@[reducible] def Rt.zero:Rt:=⟨0,.zero⟩
@[reducible] def mj.zero:mj:=⟨0,.zero,.zero,.zero⟩
section
variable {w:World}{d:Nat}
theorem Ru(k k':IntKind)(t:Nat)(h:ab.underlying t=some (.int k'))(a b:Int):(fC (d+1) t (.int k a) (.int k b)).run ab w=.ok (a==b) w:=by grind [run_equalIn_int]
theorem eqS(h:ab.underlying t=some .string)(a b:Bs):(fC (d+1) t (ao a) (ao b)).run ab w=.ok (a==b) w:=by
 grind [run_equalIn_string,vq]
theorem jL(o:Nat)[TA ab t false](cs:Array Value)(h:o<cs.size):(part t cs o).run ab w=.ok cs[o] w:=by
 simp[part,iY (TA.out:(ab.underlying t).map _=_),h]
end
section
variable {w:World}
theorem JV(o n:Nat)[TA ab t true][hz:iI ab t n](cs:Array Value):(part t cs o).run ab w=.ok (.agg (cs.extract o (o+n))) w:=by
 simp[part,iY (TA.out:(ab.underlying t).map _=_),iR hz.out]
end
theorem bt9{w:World}{d:Nat}(h:ab.underlying t=some .bool)(a b:Bool):(fC (d+1) t (.bool a) (.bool b)).run ab w=.ok (a==b) w:=run_equalIn_bool w d t a b h
theorem ay3(a0 b0:Int)(a1 b1:Int)(a2 b2:Int)(w:World):
 (fC (d+2) 216 (.agg #[.int .i64 a0,.int .i64 a1,.int .u32 a2]) (.agg #[.int .i64 b0,.int .i64 b1,.int .u32 b2])).run ab w=.ok ((a0==b0)&&((a1==b1)&&(a2==b2))) w:=by
 rw[run_equalIn_struct w _ _ _ _ (by rw[dL,Tryz.underlying216]) cA,dL,Tryz.underlying216]
 simp[Op.eqFields]
 simp only[jL 3 0,jL 3 1,jL 139 2,aC,dC,ax,aR,List.getElem_toArray,List.getElem_cons_zero,dJ,Nat.reduceLT,fq,List.extract_toArray,List.extract,List.drop_succ_cons,fm,List.take_succ_cons,ik,fq,Nat.reduceSub,Ru .i64 .i64 3 ed,Ru .u32 .u32 139 fg]
 grind
instance {a0 b0:Int}{a1 b1:Int}{a2 b2:Int}:EqA ab 216 [.int .i64 a0,.int .i64 a1,.int .u32 a2] [.int .i64 b0,.int .i64 b1,.int .u32 b2] ((a0==b0)&&((a1==b1)&&(a2==b2))):=⟨by kernel_rfl,λw=>ay3 9998 _ _ _ _ _ _ w⟩
theorem bg6(a0 b0:Int)(a1 b1:Int)(a2 b2:Int)(a3 b3:Int)(w:World):
 (fC (d+3) 218 (.agg #[.int .i64 a0,.int .i64 a1,.int .i64 a2,.int .u32 a3]) (.agg #[.int .i64 b0,.int .i64 b1,.int .i64 b2,.int .u32 b3])).run ab w=.ok ((a0==b0)&&((a1==b1)&&((a2==b2)&&(a3==b3)))) w:=by
 rw[run_equalIn_struct w _ _ _ _ (by rw[dL,Tryz.underlying218]) cA,dL,Tryz.underlying218]
 simp[Op.eqFields]
 simp only[jL 3 0,JV 216 1,aC,dC,ax,aR,List.getElem_toArray,List.getElem_cons_zero,dJ,Nat.reduceLT,fq,List.extract_toArray,List.extract,List.drop_succ_cons,fm,List.take_succ_cons,ik,fq,Nat.reduceSub,Ru .i64 .i64 3 ed,ay3]
 grind
theorem ay4(a0 b0:Int)(a1 b1:Int)(a2 b2:Bs)(a3 b3:Bs)(w:World):
 (fC (d+2) 151 (.agg #[.int .u64 a0,.int .i64 a1,ao a2,ao a3]) (.agg #[.int .u64 b0,.int .i64 b1,ao b2,ao b3])).run ab w=.ok ((a0==b0)&&((a1==b1)&&((a2==b2)&&(a3==b3)))) w:=by
 rw[run_equalIn_struct w _ _ _ _ (by rw[dL,Tryz.underlying151]) cA,dL,Tryz.underlying151]
 simp[Op.eqFields]
 simp only[jL 87 0,jL 149 1,jL 9 2,jL 9 3,aC,dC,ax,aR,List.getElem_toArray,List.getElem_cons_zero,dJ,Nat.reduceLT,fq,List.extract_toArray,List.extract,List.drop_succ_cons,fm,List.take_succ_cons,ik,fq,Nat.reduceSub,Ru .u64 .u64 87 eO,Ru .i64 .i64 149 Tryz.underlying149,eqS 9 cO]
 grind
theorem bg7(a0 b0:Int)(a1 b1:Int)(a2 b2:Int)(a3 b3:Int)(a4 b4:Bs)(w:World):
 (fC (d+2) 214 (.agg #[.int .u64 a0,.int .i64 a1,.int .i64 a2,.int .i64 a3,ao a4]) (.agg #[.int .u64 b0,.int .i64 b1,.int .i64 b2,.int .i64 b3,ao b4])).run ab w=.ok ((a0==b0)&&((a1==b1)&&((a2==b2)&&((a3==b3)&&(a4==b4))))) w:=by
 rw[run_equalIn_struct w _ _ _ _ (by rw[dL,Tryz.underlying214]) cA,dL,Tryz.underlying214]
 simp[Op.eqFields]
 simp only[jL 87 0,jL 149 1,jL 3 2,jL 3 3,jL 9 4,aC,dC,ax,aR,List.getElem_toArray,List.getElem_cons_zero,dJ,Nat.reduceLT,fq,List.extract_toArray,List.extract,List.drop_succ_cons,fm,List.take_succ_cons,ik,fq,Nat.reduceSub,Ru .u64 .u64 87 eO,Ru .i64 .i64 149 Tryz.underlying149,Ru .i64 .i64 3 ed,eqS 9 cO]
 grind
theorem bg8(a0 b0:Int)(a1 b1:Int)(a2 b2:Int)(a3 b3:Bs)(a4 b4:Bs)(a5 b5:Int)(a6 b6:Int)(a7 b7:Int)(a8 b8:Int)(a9 b9:Bs)(VG rR:Int)(FH wu:Int)(a12 Bl:Int)(Ni FE:Int)(w:World):
 (fC (d+4) 220 (.agg #[.int .i64 a0,.int .u64 a1,.int .i64 a2,ao a3,ao a4,.int .u64 a5,.int .i64 a6,.int .i64 a7,.int .i64 a8,ao a9,.int .i64 VG,.int .i64 FH,.int .i64 a12,.int .u32 Ni]) (.agg #[.int .i64 b0,.int .u64 b1,.int .i64 b2,ao b3,ao b4,.int .u64 b5,.int .i64 b6,.int .i64 b7,.int .i64 b8,ao b9,.int .i64 rR,.int .i64 wu,.int .i64 Bl,.int .u32 FE])).run ab w=.ok ((a0==b0)&&(((a1==b1)&&((a2==b2)&&((a3==b3)&&(a4==b4))))&&(((a5==b5)&&((a6==b6)&&((a7==b7)&&((a8==b8)&&(a9==b9)))))&&((VG==rR)&&((FH==wu)&&((a12==Bl)&&(Ni==FE))))))) w:=by
 rw[run_equalIn_struct w _ _ _ _ (by rw[dL,Tryz.underlying220]) cA,dL,Tryz.underlying220]
 simp[Op.eqFields]
 simp only[jL 149 0,JV 151 1,JV 214 5,JV 218 10,aC,dC,ax,aR,List.getElem_toArray,List.getElem_cons_zero,dJ,Nat.reduceLT,fq,List.extract_toArray,List.extract,List.drop_succ_cons,fm,List.take_succ_cons,ik,fq,Nat.reduceSub,Ru .i64 .i64 149 Tryz.underlying149,ay4,bg7,bg6]
 grind
instance {a0 b0:Int}{a1 b1:Int}{a2 b2:Int}{a3 b3:Bs}{a4 b4:Bs}{a5 b5:Int}{a6 b6:Int}{a7 b7:Int}{a8 b8:Int}{a9 b9:Bs}{VG rR:Int}{FH wu:Int}{a12 Bl:Int}{Ni FE:Int}:EqA ab 220 [.int .i64 a0,.int .u64 a1,.int .i64 a2,ao a3,ao a4,.int .u64 a5,.int .i64 a6,.int .i64 a7,.int .i64 a8,ao a9,.int .i64 VG,.int .i64 FH,.int .i64 a12,.int .u32 Ni] [.int .i64 b0,.int .u64 b1,.int .i64 b2,ao b3,ao b4,.int .u64 b5,.int .i64 b6,.int .i64 b7,.int .i64 b8,ao b9,.int .i64 rR,.int .i64 wu,.int .i64 Bl,.int .u32 FE] ((a0==b0)&&(((a1==b1)&&((a2==b2)&&((a3==b3)&&(a4==b4))))&&(((a5==b5)&&((a6==b6)&&((a7==b7)&&((a8==b8)&&(a9==b9)))))&&((VG==rR)&&((FH==wu)&&((a12==Bl)&&(Ni==FE))))))):=⟨by kernel_rfl,λw=>bg8 9996 _ _ _ _ _ _ _ _ _ _ _ _ _ _ _ _ _ _ _ _ _ _ _ _ _ _ _ _ w⟩
theorem VH(a0 b0:Int)(a1 b1:Int)(a2 b2:Int)(w:World):
 (fC (d+2) 153 (.agg #[.int .u32 a0,.int .i64 a1,.int .i64 a2]) (.agg #[.int .u32 b0,.int .i64 b1,.int .i64 b2])).run ab w=.ok ((a0==b0)&&((a1==b1)&&(a2==b2))) w:=by
 rw[run_equalIn_struct w _ _ _ _ (by rw[dL,Tryz.underlying153]) cA,dL,Tryz.underlying153]
 simp[Op.eqFields]
 simp only[jL 139 0,jL 3 1,jL 3 2,aC,dC,ax,aR,List.getElem_toArray,List.getElem_cons_zero,dJ,Nat.reduceLT,fq,List.extract_toArray,List.extract,List.drop_succ_cons,fm,List.take_succ_cons,ik,fq,Nat.reduceSub,Ru .u32 .u32 139 fg,Ru .i64 .i64 3 ed]
 grind
instance {a0 b0:Int}{a1 b1:Int}{a2 b2:Int}:EqA ab 153 [.int .u32 a0,.int .i64 a1,.int .i64 a2] [.int .u32 b0,.int .i64 b1,.int .i64 b2] ((a0==b0)&&((a1==b1)&&(a2==b2))):=⟨by kernel_rfl,λw=>VH 9998 _ _ _ _ _ _ w⟩
theorem bg9(a0 b0:Bs)(a1 b1:Int)(a2 b2:Int)(a3 b3:Int)(a4 b4:Int)(a5 b5:Int)(a6 b6:Bool)(a7 b7:Bs)(w:World):
 (fC (d+3) 155 (.agg #[ao a0,.int .u64 a1,.int .i64 a2,.int .u32 a3,.int .i64 a4,.int .i64 a5,.bool a6,ao a7]) (.agg #[ao b0,.int .u64 b1,.int .i64 b2,.int .u32 b3,.int .i64 b4,.int .i64 b5,.bool b6,ao b7])).run ab w=.ok ((a0==b0)&&((a1==b1)&&((a2==b2)&&(((a3==b3)&&((a4==b4)&&(a5==b5)))&&((a6==b6)&&(a7==b7)))))) w:=by
 rw[run_equalIn_struct w _ _ _ _ (by rw[dL,Tryz.underlying155]) cA,dL,Tryz.underlying155]
 simp[Op.eqFields]
 simp only[jL 9 0,jL 87 1,jL 149 2,JV 153 3,jL 4 6,jL 9 7,aC,dC,ax,aR,List.getElem_toArray,List.getElem_cons_zero,dJ,Nat.reduceLT,fq,List.extract_toArray,List.extract,List.drop_succ_cons,fm,List.take_succ_cons,ik,fq,Nat.reduceSub,eqS 9 cO,Ru .u64 .u64 87 eO,Ru .i64 .i64 149 Tryz.underlying149,VH,bt9 4 fY]
 grind
instance {a0 b0:Bs}{a1 b1:Int}{a2 b2:Int}{a3 b3:Int}{a4 b4:Int}{a5 b5:Int}{a6 b6:Bool}{a7 b7:Bs}:EqA ab 155 [ao a0,.int .u64 a1,.int .i64 a2,.int .u32 a3,.int .i64 a4,.int .i64 a5,.bool a6,ao a7] [ao b0,.int .u64 b1,.int .i64 b2,.int .u32 b3,.int .i64 b4,.int .i64 b5,.bool b6,ao b7] ((a0==b0)&&((a1==b1)&&((a2==b2)&&(((a3==b3)&&((a4==b4)&&(a5==b5)))&&((a6==b6)&&(a7==b7)))))):=⟨by kernel_rfl,λw=>bg9 9997 _ _ _ _ _ _ _ _ _ _ _ _ _ _ _ _ w⟩
theorem FI[CF ab f](uD tX:List Bs->Prop)(hit:z7 ab G f cap A (λk:Bs=>[ao k]) uD tX)(hl:∀p,uD p->p.length<=1000000000000):
 TR ab G 361 #[.slice none 0 0,.func (.func f) #[] cap.toArray] [cV A] (cb λv B=>∃ys,tX ys/\∃a c,v=.slice a ys.length c/\B=[own 9 1 a ys.length c (ys.flatMap λk=>[ao k]),cV A]):=by
 refine aW U λb β hb hG=>xS ?_
 refine X.box U U U U λb2=>?_
 refine A7 (λk:Bs=>[ao k]) 9 1 b2 U (xS ?_)
 refine Gh hG hb hit.cV U (λpre=>[lE (λk:Bs=>[ao k]) 9 1 35 b2 pre]) [lE (λk:Bs=>[ao k]) 9 1 35 b2 []] U (λ_=>rfl) de ?_ ?_
 ·intro b' β' l' r pre x hx lC yy hr;have tJ:=hl _ hx;rw[aG,List.length_singleton]at tJ;refine xS ?_;refine qg lC hr (xS ?_);refine mh (λk:Bs=>[ao k]) 9 1 35 b2 λa6 c6=>?_;refine xZ ?_;intro b7;refine eD (x) U U U U av U iA iA iA iA iA av λa8 c8=>xS ?_;refine tD (λk:Bs=>[ao k]) 9 1 35 b2 (pre++[x]) U ?_;exact ll lC
 ·intro D ys yz;dsimp only[ae,ai,ah];refine mh (λk:Bs=>[ao k]) 9 1 35 b2 λa6 c6=>xS ?_;exact aM4
theorem JW[CF ab f](uD tX:List Bs->Prop)(hit:z7 ab G f cap A (λk:Bs=>[ao k]) uD tX)(hl:∀p,uD p->p.length<=1000000000000):
 TR ab G 255 #[.func (.func f) #[] cap.toArray] [cV A] (cb λv B=>∃ys,tX ys/\∃a c,v=.slice a ys.length c/\B=[own 9 1 a ys.length c (ys.flatMap λk=>[ao k]),cV A]):=by
 refine cg U λb β hb hG=>xS ?_
 refine bw (FI G f cap A uD tX hit hl) ?_
 rintro v B ⟨ys,yz,a,c,rfl,rfl⟩
 refine xD ?_
 exact bO hb (.tmps U) ⟨ys,yz,a,c,U,U⟩
instance aW6(x l m:Int):FJ ab 313 [.int .i64 x,.int .i64 l,.int .i64 m] [] (.bool (decide (l<=x)&&decide (x<=m))):=⟨λG=>by
 refine jr U λb β hb hG=>?_;refine xT 10 ?_ ?_<;>intro h
 ·exact aJ9
 ·refine xS ?_;exact bO hb (.tmps U) ⟨by simp[lx,h],U⟩⟩
instance ay6(x:Int):FJ ab 312 [.int .i64 x] [] (.bool (x==1||x==2)):=⟨λG=>by
 refine cg U λb β hb hG=>?_;refine xT 5 ?_ ?_<;>intro h
 ·exact aJ9
 ·refine xS ?_;exact bO hb (.tmps U) ⟨by simp[lx,h],U⟩⟩
def oN(eB:Int)(key val:Bs)(kind:Int):Int:=
 if eB=0 then 47 else if ¬(1<=key.length/\key.length<=64)then 48 else if 2048<val.length\/(kind=2/\val≠[])then 49 else 0
instance bh0(eB:Int)(key val:Bs)(kind:Int):FJ ab 311 [.int .u64 eB,ao key,ao val,.int .i64 kind] [] (.int .i64 (oN eB key val kind)):=⟨λG=>by
 refine TR.go (us:=[_,_,_,_]) (aI U) λb β hb hG=>?_;have out:∀{N vs k Hs} (x:Int),oN eB key val kind=x->lk vs 8=some (.int .i64 x)->X ab b β none (.it (.code .ret::k)) ⟨N,vs,[]⟩ Hs (cT (.int .i64 (oN eB key val kind))):=by
  intro N vs k Hs x he h1;exact bO hb (.tmp h1 .nil) ⟨by rw[he];rfl,U⟩
 refine xB ?_ ?_<;>intro h1
 ·refine xS ?_;exact out 47 (by grind [oN]) U
 ·refine xB ?_ ?_<;>intro h2
  ·refine xS ?_;exact out 48 (by grind [oN]) U
  ·refine xS ?_;have e0:oN eB key val kind=if 2048<val.length\/(kind=2/\val≠[])then 49 else 0:=by
    grind [oN]
   refine xT 21 ?_ ?_<;>intro h3
   ·refine xS ?_;exact out 49 bE U
   ·refine xT 24 ?_ ?_<;>intro h4
    ·refine xB ?_ ?_<;>intro h5
     ·refine xS ?_;exact out 49 bE U
     ·refine xS ?_;exact out 0 bE U
    ·refine xS ?_;exact out 0 bE U⟩
@[reducible] def fj(r:Rec):mj:=⟨r.kind,r,.zero,.zero⟩
instance bA1(l k:Int)(x y:Bs):FJ ab 137 [.agg #[.int .u64 l,.int .i64 k,ao x,ao y]] [] (.agg #[.int .i64 k,.int .u64 l,.int .i64 k,ao x,ao y,.int .u64 0,.int .i64 0,.int .i64 0,.int .i64 0,ao [],.int .i64 0,.int .i64 0,.int .i64 0,.int .u32 0]):=⟨λG=>by
 refine cg U λb β hb hG=>?_;refine xP ?_;intro b1;refine xA ?_;intro b2;exact bO hb (.gX U U .nil) ⟨U,U⟩⟩
end
section
variable(m:Nat)(l:List UInt8)(i:Nat)(f:mj)(G:bZ)(a:Option Addr)(n c:Nat)(xs:List UInt8)
def uE(f:mj)(e:Int)(right:Bool)(only:mj):Int:=if e=0/\(right=false\/only≠f)then 40 else e
def qn(f:mj):Bool:=decide (0<=f.ptr.at_/\f.ptr.at_<=4194304/\1<=f.ptr.len/\f.ptr.len<=4194304)
def qo(f:mj):Bool:=decide (0<=f.fin.count/\f.fin.count<=4194304/\0<=f.fin.print.bytes/\f.fin.print.bytes<=4194304/\0<=f.fin.print.bz/\f.fin.print.bz<=4194304)
def ca(f:mj):Int:=
 if f.kind=1\/f.kind=2 then
  if f.kG.kind≠f.kind then 46 else uE f (oN f.kG.eB.toNat f.kG.key f.kG.val f.kG.kind) true ⟨f.kind,f.kG,.zero,.zero⟩
 else if f.kind=3 then
  if ¬(f.ptr.kind=1\/f.ptr.kind=2)then 46
  else uE f (oN f.ptr.eB.toNat f.ptr.key [] f.ptr.kind) (qn f) ⟨f.kind,.zero,f.ptr,.zero⟩
 else if f.kind=4 then
  uE f 0 (qo f) ⟨f.kind,.zero,.zero,f.fin⟩
 else 46
theorem VJ(a b:UInt64):((a.toNat:Int)==(b.toNat:Int))=(a==b):=by
 grind [gL]
theorem VK(a b:UInt32):((a.toNat:Int)==(b.toNat:Int))=(a==b):=by
 grind [dM]
theorem aW7(g:mj):((f.kind==g.kind)&&((((f.kG.eB.toNat:Int)==(g.kG.eB.toNat:Int))&&((f.kG.kind==g.kG.kind)&&((f.kG.key==g.kG.key)&&(f.kG.val==g.kG.val))))&&((((f.ptr.eB.toNat:Int)==(g.ptr.eB.toNat:Int))&&((f.ptr.kind==g.ptr.kind)&&((f.ptr.at_==g.ptr.at_)&&((f.ptr.len==g.ptr.len)&&(f.ptr.key==g.ptr.key)))))&&((f.fin.count==g.fin.count)&&((f.fin.print.bytes==g.fin.print.bytes)&&((f.fin.print.bz==g.fin.print.bz)&&((f.fin.print.sum.toNat:Int)==(g.fin.print.sum.toNat:Int))))))))=decide (f=g):=by
 obtain⟨k,⟨a1,a2,a3,a4⟩,⟨b1,b2,b3,b4,b5⟩,⟨c1,c2,c3,c4⟩⟩:=f
 obtain⟨k',⟨a1',a2',a3',a4'⟩,⟨b1',b2',b3',b4',b5'⟩,⟨c1',c2',c3',c4'⟩⟩:=g
 grind [VJ,VK]
theorem JY(f:mj):TR ab G 208 #[.agg f.cs.toArray] [] (cT (.int .i64 (ca f))):=by
 refine cg U λb β hb hG=>?_;have out:∀{N vs k Hs} (x:Int),ca f=x->lk vs 2=some (.int .i64 x)->X ab b β none (.it (.code .ret::k)) ⟨N,vs,[]⟩ Hs (cT (.int .i64 (ca f))):=by
  intro N vs k Hs x he h1;exact bO hb (.tmp h1 .nil) ⟨by rw[he];rfl,U⟩
 refine xP ?_;intro b1;refine eR 6 [0] ?_;refine xL [0,1,2,3,4,5] ?_;refine UZ U U U U U U U U U U U U U U U U U U U U U U U U U U U U λb3 b4 b5=>?_;refine xA ?_;intro b7;refine tU [1,2,3,4,5,6,7,8,19] [0] (ι:={u:Bool // u=(f.kind==1||f.kind==2)}) (λu q_=>(20,.bool u.1)::q_) (λu q_=>bx b7 220 (mj.cs ⟨f.kind,.zero,.zero,.zero⟩)::q_) (λu=>?_) (λK fin=>?_)
 ·obtain⟨u,hu⟩:=u;dsimp only;refine nh (ι:={p:Int×Bool×mj // ca f=uE f p.1 p.2.1 p.2.2}) (λp=>([(1,au b1),(2,.int .i64 0),(6,.int .i64 p.1.1),(7,au b7),(8,.bool p.1.2.1)],[bx b7 220 p.1.2.2.cs,bx b1 220 f.cs])) (λp=>?_) (λK fin=>?_)
  ·obtain⟨⟨e,right,only⟩,hp⟩:=p;dsimp only at hp ⊢;refine xT 83 ?_ ?_<;>intro h1
   ·refine xT 86 ?_ ?_<;>intro h2
    ·refine xS ?_;exact out 40 bm6 U
    ·refine xS ?_;rw[aW7];refine xB ?_ ?_<;>intro h3
     ·refine xS ?_;exact out 40 bm6 U
     ·refine xS ?_;exact out e bm6 U
   ·refine xS ?_;exact out e bm6 U
  ·refine xT 20 ?_ ?_<;>intro h1
   ·have hk:f.kind=1\/f.kind=2:=by grind
    refine xB ?_ ?_<;>intro h2
    ·exact aQ4
    ·refine xS ?_
     refine X.W (fin ⟨(oN f.kG.eB.toNat f.kG.key f.kG.val f.kG.kind,true,⟨f.kind,f.kG,.zero,.zero⟩),?_⟩)
     grind [ca]
   ·have hk:¬(f.kind=1\/f.kind=2):=by grind
    refine xT 39 ?_ ?_<;>intro h2
    ·have hk3:f.kind=3:=by grind
     refine xB ?_ ?_<;>intro h3
     ·exact aQ4
     ·refine xS ?_;have e3:ca f=uE f (oN f.ptr.eB.toNat f.ptr.key [] f.ptr.kind) (qn f) ⟨f.kind,.zero,f.ptr,.zero⟩:=by
       grind [ca]
      refine xT 55 ?_ ?_<;>intro h4
      ·refine xS ?_
       refine X.less (fin ⟨(oN f.ptr.eB.toNat f.ptr.key [] f.ptr.kind,qn f,⟨f.kind,.zero,f.ptr,.zero⟩),e3⟩) (Y7 U U U U (eN U ?_)) ay
       grind [qn]
      ·refine xS ?_
       refine X.less (fin ⟨(oN f.ptr.eB.toNat f.ptr.key [] f.ptr.kind,qn f,⟨f.kind,.zero,f.ptr,.zero⟩),e3⟩) (Y7 U U U U (eN U ?_)) ay
       grind [qn]
    ·have hk3:¬f.kind=3:=by grind
     refine xT 62 ?_ ?_<;>intro h3
     ·have hk4:f.kind=4:=by grind
      refine xS ?_;have e4:ca f=uE f 0 (qo f) ⟨f.kind,.zero,.zero,f.fin⟩:=by
       grind [ca]
      refine xT 67 ?_ ?_<;>intro h4
      ·refine xT 73 ?_ ?_<;>intro h5
       ·refine xS ?_
        refine X.less (fin ⟨(0,qo f,⟨f.kind,.zero,.zero,f.fin⟩),e4⟩) (Y7 U U U U (eN U ?_)) ay
        grind [qo]
       exact aF2
      exact aF2
     ·have hk4:¬f.kind=4:=by grind
      exact aQ4
 ·refine X.cd (Hs':=[bx b7 220 (mj.cs ⟨f.kind,.zero,.zero,.zero⟩),bx b5 218 f.fin.cs,bx b4 214 f.ptr.cs,bx b3 151 f.kG.cs,bx b1 220 f.cs]) (jk U) ?_;refine xT 20 ?_ ?_<;>intro h1
  ·refine xS ?_;exact X.W (fin ⟨true,by grind⟩)
  ·refine xS ?_;exact X.W (fin ⟨f.kind==2,by grind⟩)
def uF:Nat->Nat->List UInt8
 |0,n=>[cu n]
 |f+1,n=>if 127<n then(cu n|||128)::uF f (n / 128)else[cu n]
def eX(l:List UInt64):List UInt8:=l.flatMap λx=>uF 9 x.toNat
theorem Gu:∀f n,(uF f n).length<=f+1
 |0,_=>by simp[uF]
 |f+1,n=>by
  unfold uF;split
  ·have:=Gu f (n / 128);simp;omega
  ·simp
theorem jM(l:List UInt64):(eX l).length<=10*l.length:=by
 unfold eX;induction l with
 |nil=>simp
 |cons x r ih=>grind [Gu]
theorem H0(xs:List UInt64)(i:Nat)(h:i<xs.length):eX (xs.take (i+1))=eX (xs.take i)++uF 9 xs[i].toNat:=by
 grind [eX,dd]
theorem mP(xs:List UInt64)(hn:xs.length=n)(hs:n<=1099511627776):
 TR ab G 209 #[.slice a n c] [bV bt4 1 a xs] (cb (ad5 (eX xs))):=by
 refine TR.go (us:=[.slice a n c]) (aI U) λb β hb hG=>?_
 refine wh (λ_ _ hs=>iZ 5 1 hs) (xS ?_)
 refine eT [6,7] [0] (ι:={p:Nat×Option Addr×Nat // p.1<=n}) (λi q_=>(3,.slice i.1.2.1 (eX (xs.take i.1.1)).length i.1.2.2)::(8,.int .i64 i.1.1)::q_) (λi q_=>own 5 1 i.1.2.1 (eX (xs.take i.1.1)).length i.1.2.2 ((eX (xs.take i.1.1)).map fO)::q_) (λi=>n - i.1.1) ⟨(0,none,0),al _⟩ ?_
 rintro⟨⟨i,a1,c1⟩,hi⟩ ih
 dsimp only
 refine xB ?_ ?_<;>intro h
 ·have hi:i<xs.length:=by grind
  have hlen0:=jM (xs.take i);rw[cB]at hlen0;have hsnoc:=H0 xs i hi;generalize hO:eX (xs.take i)=O at*;refine xS ?_;refine cH U U U U U hi hn λbl o=>xS ?_;rw[show rQ xs[i]=.int .u64 xs[i].toNat from rfl];have hx64:=xs[i].toNat_lt;generalize hx:xs[i].toNat=x at*;refine eT [6,7,8] [0,0] (ι:={p:Nat×Nat×List UInt8×Option Addr×Nat // p.2.1<128^(p.1+1)/\p.2.2.1.length+p.1<=O.length+9/\p.2.2.1++uF p.1 p.2.1=O++uF 9 x}) (λp q_=>(3,.slice p.1.2.2.2.1 p.1.2.2.1.length p.1.2.2.2.2)::(5,.int .u64 p.1.2.1)::q_) (λp q_=>own 5 1 p.1.2.2.2.1 p.1.2.2.1.length p.1.2.2.2.2 (p.1.2.2.1.map fO)::q_) (λp=>p.1.1) ⟨(9,x,O,a1,c1),by dsimp only;omega,by dsimp only;omega,U⟩ ?_;rintro⟨⟨f,y,Z,a2,c2⟩,hy,hZ,hE⟩ pG;dsimp only at hy hZ hE pG ⊢;refine xB ?_ ?_<;>intro h2
  ·have hy127:127<y:=by grind
   obtain⟨f,rfl⟩:∃q,f=q+1:=by
    cases f with
    |zero=>omega
    |succ q=>grind
   refine xS ?_
   refine lB U U iA iA iA iA iA iA λVM=>?_
   refine sA U U U U iA iA iA iA av λa3 c3=>xS ?_
   refine X.less (pG ⟨(f,y / 128,Z++[cu y|||128],a3,c3),?_,?_,?_⟩ gm) ?_ ?_
   ·grind
   ·simp;omega
   ·grind [uF]
   ·refine Sub.cons (eN U nH) (Sub.cons (eN U (by rw[bf9])) (Sub.of U))
   ·dsimp only;refine jk ?_;rw[qm y,Ri];simp[fO]
  ·have hy127:y<=127:=by grind
   refine xS ?_;refine lB U U iA iA iA iA iA iA λVM=>?_;refine sA U U U U iA iA iA iA av λa3 c3=>xS ?_;have VN:Z++[cu y]=O++uF 9 x:=by
    rw[<-hE];cases f with
    |zero=>rfl
    |succ f=>grind [uF]
   have hT:eX (xs.take (i+1))=Z++[cu y]:=by rw[VN,hsnoc]
   refine X.less (ih ⟨(i+1,a3,c3),by omega⟩ bE) ?_ ?_
   ·dsimp only;rw[hT];exact Sub.cons (eN U nH) (Sub.of U)
   ·dsimp only
    rw[hT]
    refine jk ?_
    grind [qm,fO]
 ·have fw:i=n:=by grind
  subst fw;refine xS ?_;refine X.ret hb (.tmps U) ⟨_,⟨a1,c1,?_,U⟩,?_⟩
  ·show Value.slice _ _ _=_
   grind
  ·rw[aD av];exact aN.trans (cQ _ _ _) (aN.drop _ _)
theorem bh1:cN.wrap ((m:Int)*2^(min (Int.toNat 7) cN.bits))=((fE (m*128)).toNat:Int):=by
 rw[show(min (Int.toNat 7) cN.bits)=7 from by decide,show(2:Int)^7=((128:Nat):Int)from by decide,<-Int.natCast_mul,pI];rfl
theorem Bn(x:UInt8):cN.wrap (x.toNat:Int)=(x.toUInt64.toNat:Int):=by
 rw[pI];simp_all
def qp:List UInt8->UInt64->UInt64×Int
 |[],n=>(n,0)
 |c::r,n=>if 127<c.toNat then(0,24)else qp r (fE (n.toNat*128)|||c.toUInt64)
def pJ(l:List UInt8)(count:Int):UInt64×Int:=
 if count<1\/count>9 then(0,20)else if(l.length:Int)<count then(0,21)else qp (l.take count.toNat) 0
theorem Nj(h:i<l.length)(n:UInt64):qp (l.drop i) n=if 127<l[i].toNat then(0,24)else qp (l.drop (i+1)) (fE (n.toNat*128)|||l[i].toUInt64):=by
 rw[aP h,qp]
theorem Gv(count:Int)(hn:xs.length=n)(oM:n<=c)(hs:n<=1099511627776):
 TR ab G 326 #[.slice a n c,.int .i64 count] [bV RB 1 a xs] (cT (.tuple #[rQ (pJ xs count).1,aX (pJ xs count).2])):=by
 refine aW U λb β hb hG=>xS ?_
 have early:∀{N vs k Hs} (x:UInt64) (e:Int),pJ xs count=(x,e)->lk vs 4=some (rQ x)->lk vs 5=some (aX e)->X ab b β none (.it (.code .ret::k)) ⟨N,vs,[]⟩ Hs (cT (.tuple #[rQ (pJ xs count).1,aX (pJ xs count).2])):=by
  intro N vs k Hs x e he h1 h2;refine bO hb (.tmp h1 (.tmp h2 .nil)) ⟨by rw[he];rfl,U⟩
 refine xT 12 ?_ ?_<;>intro h1
 ·exact az7
 ·refine xB ?_ ?_<;>intro h2
  ·exact az7
  ·refine xB ?_ ?_<;>intro h3
   ·have hE:pJ xs count=(0,21):=by grind [pJ]
    refine xS ?_;refine early 0 21 hE ?_ ?_<;>rfl
   ·have hc0:1<=count/\count<=9/\count<=n:=by grind
    obtain⟨m,rfl⟩:∃m:Nat,count=m:=⟨count.toNat,by omega⟩;refine xS ?_;refine nI (l:=0) (h:=m) U U U hn Bd.no (Bd.at U U) av av oM λa2 c2 Nk=>?_;have hE:pJ xs m=qp (xs.take m) 0:=by grind [pJ]
    generalize hL:(xs.drop 0).take (m - 0)=L;have hL2:L=xs.take m:=bE;have hLl:L.length=m:=bE;rw[<-hL2]at hE;clear hL hL2;simp only[Nat.sub_zero];refine xS ?_;refine eT [23,24] [] (ι:={p:Nat×UInt64 // p.1<=m/\pJ xs m=qp (L.drop p.1) p.2}) (λp q_=>(6,rQ p.1.2)::(25,.int .i64 p.1.1)::q_) (λp q_=>q_) (λp=>m - p.1.1) ⟨(0,0),al _,by simpa using hE⟩ ?_;rintro⟨⟨i,t⟩,hi,hI⟩ ih;dsimp only at hi hI ih ⊢;refine xB ?_ ?_<;>intro h4
    ·have FL:i<L.length:=by grind
     rw[Nj L i FL]at hI;refine xS ?_;refine cH U U U U U FL hLl λbl o=>xS ?_;rw[show fO L[i]=.int .u8 L[i].toNat from rfl];refine xB ?_ ?_<;>intro h5
     ·have VN:pJ xs m=(0,24):=by grind
      refine xS ?_;refine early 0 24 VN ?_ ?_<;>rfl
     ·refine xS ?_
      refine X.less (ih ⟨(i+1,fE (t.toNat*128)|||L[i].toUInt64),by omega,?_⟩ gm) (Sub.cons (eN U ?_) (Sub.of U)) (aN.drop _ _)
      ·grind
      ·rw[bh1,Bn,Vl];rfl
    ·have him:i=m:=by grind
     subst him;have VN:pJ xs i=(t,0):=by rw[hI,bc av];rfl
     refine xS ?_;refine early t 0 VN ?_ ?_<;>rfl
def ay9(n:UInt64)(j:Nat):UInt8:=cu (n.toNat / 2^(7*j))&&&127
def z'(n:UInt64):Nat->List UInt8
 |0=>[]
 |k+1=>ay9 n k::z' n k
theorem yA(n:UInt64):∀k,(z' n k).length=k
 |0=>rfl
 |k+1=>by simp[z',yA n k]
theorem Gw(n:UInt64)(m:Nat)(hm:1<=m/\m<=9):
 TR ab G 306 #[rQ n,aX m] [] (cb λv B=>if n.toNat / 2^(7*m)=0 then ∃a,v=.tuple #[.slice a m m,aX 0]/\B=[own 5 1 a m m ((z' n m).map fO)]else v=.tuple #[.slice none 0 0,aX 24]/\B=[]):=by
 refine aW U λb β hb hG=>?_
 refine xT 11 ?_ ?_<;>intro h1
 ·simp at h1;omega
 refine xB ?_ ?_<;>intro h2
 ·simp at h2;omega
 refine xS ?_
 rw[show(7:Int)*(m:Int)=((7*m:Nat):Int)from by omega]
 refine Pq U U U U U av ?_
 rw[vr .u64 n.toNat (7*m) (by show 7*m<=64;omega)]
 generalize hq:n.toNat / 2^(7*m)=q at*
 refine xB ?_ ?_<;>intro h3
 ·refine xS ?_;refine X.ret hb (.tmps U) ⟨[],?_,aN.refl _⟩;dsimp only[cb];have:¬q=0:=bE;rw[if_neg this];exact⟨U,U⟩
 have h30:q=0:=bE
 refine xS ?_
 refine au8 (n:=m) (zs:=[fO 0]) U U U U U U U av av λa=>xS ?_
 refine gV a av ?_
 rintro bl rfl
 refine X.loop (ι:={i:Nat // i<=m}) (λi=>([(0,rQ n),(1,aX m),(6,.slice (some ⟨bl,0,none⟩) m m),(24,aX m),(25,aX i.1)],[own 5 1 (some ⟨bl,0,none⟩) m m (bI (m - i.1) (fO 0)++(z' n i.1).map fO)])) (λi=>m - i.1) ⟨0,al _⟩ (Sub.of U) ?_ ?_
 ·dsimp only
  refine jk ?_
  grind [z',List.flatten_replicate_singleton]
 rintro⟨i,hi⟩ ih
 dsimp only
 refine xB ?_ ?_<;>intro h4
 ·have FL:i<m:=by grind
  refine xS ?_
  rw[show(7:Int)*(i:Int)=((7*i:Nat):Int)from by omega]
  refine Pq U U U U U av ?_
  rw[vr .u64 n.toNat (7*i) (by show 7*i<=64;omega)]
  refine xS ?_
  refine du (j:=m - 1 - i) U U U U av av ?_
  refine Pe U U U U U U ?_ ?_
  ·grind
  refine xS ?_
  refine X.less (ih ⟨i+1,by omega⟩ bE) (Sub.of U) ?_
  refine jk ?_
  congr 2
  rw[qm (n.toNat / 2^(7*i)),C8]
  show _=bI (m - (i+1)) (fO 0)++List.map fO (z' n (i+1))
  have e1:m - i=(m - 1 - i)+1:=av
  have e2:m - (i+1)=m - 1 - i:=av
  rw[e1,e2]
  generalize m - 1 - i=p
  simp only[aQ,Nat.mul_one,ax,aR]
  grind [z',ay9,fO]
 ·have him:i=m:=by grind
  subst him;refine xS ?_;refine X.ret hb (.tmps U) ⟨_,?_,aN.refl _⟩;dsimp only[cb];rw[if_pos h30];exact⟨_,U,by simp⟩
theorem VO(c:UInt8):TR ab G 495 #[fO c] [] (cT (.bool (decide (c.toNat<128)))):=by
 refine cg U λb β hb hG=>xS ?_;refine bO hb (.tmps U) ⟨?_,U⟩;simp[lx];omega
def cy{α:Type}(p:α->Bool):Nat->List α->Int
 |_,[]=> -1
 |i,x::r=>if p x then(i:Int)else cy p (i+1) r
theorem jt{α:Type}(p:α->Bool)(l:List α)(i:Nat)(h:i<l.length):cy p i (l.drop i)=if p l[i]then(i:Int)else cy p (i+1) (l.drop (i+1)):=by
 rw[aP h,cy]
theorem H2(f:Nat)(xs:List UInt8)(p:UInt8->Bool)[CF ab f](hf:∀x,TR ab G f #[fO x] [] (cT (.bool (p x))))(hn:xs.length=n)(hs:n<=1099511627776):
 TR ab G 494 #[.slice a n c,.func (.func f) #[] #[]] [bV RB 1 a xs] (cT (aX (cy p 0 xs))):=by
 refine aW U λb β hb hG=>xS ?_
 refine eT [0,1] [] (ι:={i:Nat // i<=n/\cy p 0 xs=cy p i (xs.drop i)}) (λi q_=>(7,aX n)::(8,aX i.1)::q_) (λi q_=>q_) (λi=>n - i.1) ⟨0,al _,U⟩ ?_
 rintro⟨i,hi,hE⟩ ih
 dsimp only
 refine xB ?_ ?_<;>intro h
 ·have hi:i<xs.length:=by grind
  refine xS ?_;refine cH U U U U U hi hn λbl o=>xS ?_;refine ng (fst:=[]) (us:=[fO xs[i]]) (cap:=[]) hG (hf xs[i]) U U U U ?_;rw[jt p xs i hi]at hE;refine xB ?_ ?_<;>intro h2
  ·rw[if_pos h2]at hE;exact bj9
  ·rw[if_neg Xw]at hE;exact bx6
 ·exact aW5
theorem uG{α:Type}(p:α->Bool):∀(l:List α) (i:Nat),cy p i l= -1\/((i:Int)<=cy p i l/\cy p i l<(i:Int)+l.length)
 |[],_=>.inl U
 |x::r,i=>by
  unfold cy;split
  ·right;simp;omega
  ·rcases uG p r (i+1)with h|h
   ·exact .inl h
   ·right;simp only[ax];omega
def FN:Nat->UInt64->List UInt8->UInt64
 |_,n,[]=>n
 |i,n,c::r=>FN (i+1) (n|||fE ((c&&&127).toNat*2^(7*i))) r
theorem Rw(h:i<l.length)(n:UInt64):FN i n (l.drop i)=FN (i+1) (n|||fE ((l[i]&&&127).toNat*2^(7*i))) (l.drop (i+1)):=by
 rw[aP h,FN]
def yB(b:List UInt8):Int:=cy (λc=>decide (c.toNat<128)) 0 (b.take 10)
def rq(b:List UInt8):UInt64×Int×Int:=
 if yB b<0/\b.length<10 then(0,0,21)
 else if yB b<0\/(yB b=9/\1<(b.getD 9 0).toNat)then(0,0,22)
 else if 0<yB b/\(b.getD (yB b).toNat 0).toNat=0 then(0,0,23)
 else(FN 0 0 (b.take ((yB b).toNat+1)),yB b+1,0)
def VP(p:UInt64×Int×Int):Value:=.tuple #[rQ p.1,aX p.2.1,aX p.2.2]
theorem bh2(j:Nat)(h:j<=64):cN.wrap ((m:Int)*2^(min (Int.toNat (j:Int)) cN.bits))=((fE (m*2^j)).toNat:Int):=by
 rw[show(min (Int.toNat (j:Int)) cN.bits)=j from by show min j 64=j;omega,show(2:Int)^j=((2^j:Nat):Int)from by simp,<-Int.natCast_mul,pI];rfl
theorem Rx(hn:xs.length=n)(oM:n<=c)(hs:n<=1099511627776):
 TR ab G 470 #[.slice a n c] [bV RB 1 a xs] (cT (VP (rq xs))):=by
 refine cg U λb β hb hG=>?_
 have out:∀{N vs k Hs} (p:UInt64×Int×Int),rq xs=p->lk vs 2=some (rQ p.1)->lk vs 3=some (aX p.2.1)->lk vs 4=some (aX p.2.2)->X ab b β none (.it (.code .ret::k)) ⟨N,vs,[]⟩ Hs (cT (VP (rq xs))):=by
  intro N vs k Hs p he h1 h2 h3;exact bO hb (.tmp h1 (.tmp h2 (.tmp h3 .nil))) ⟨by rw[he];rfl,U⟩
 refine xS ?_
 obtain⟨m,hm,hmn,hm10⟩:∃m:Nat,(if(10:Int)<(n:Int)then(10:Int)else(n:Int))=m/\m<=n/\m=min n 10:=by
  grind
 refine nI (l:=0) (h:=m) U U U hn Bd.no (Bd.at U hm) av av oM λa2 c2 Nk=>?_
 have hL:(xs.drop 0).take (m - 0)=xs.take 10:=by
  grind
 rw[hL]
 simp only[Nat.sub_zero]
 have hlen:(xs.take 10).length=m:=bB
 refine xJ (H2 G a2 m c2 495 (xs.take 10) (λc=>decide (c.toNat<128)) (VO G) hlen av) ?_
 have hr:=uG (λc:UInt8=>decide (c.toNat<128)) (xs.take 10) 0
 rw[hlen]at hr
 have ae3:rq xs=rq xs:=U
 conv at ae3=>rhs;unfold rq yB
 generalize cy (λc:UInt8=>decide (c.toNat<128)) 0 (xs.take 10)=q at*
 refine xT 18 ?_ ?_<;>intro h1
 ·have hq:q<0:=by grind
  refine xB ?_ ?_<;>intro h2
  ·refine xS ?_
   refine out (0,0,21) ?_ ?_ ?_ ?_
   ·grind
   all_goals rfl
  ·refine xS ?_;refine X.cond U (λh5=>?_) (λh5=>by simp at h5;omega);refine xB ?_ ?_<;>intro h6
   ·refine xS ?_
    refine out (0,0,22) ?_ ?_ ?_ ?_
    ·grind
    all_goals rfl
   ·simp at h6;omega
 ·have hq:0<=q:=by grind
  obtain⟨k,rfl⟩:∃k:Nat,q=k:=⟨q.toNat,by omega⟩;have hk:k<xs.length:=av;refine xS ?_;have hg:∀j (h:j<xs.length),xs.getD j 0=xs[j]:=bE;rw[if_neg av]at ae3;refine aa9 [0,5] [0] (ι:={_u:Unit // rq xs=(FN 0 0 (xs.take (k+1)),(k:Int)+1,0)}) (λ_ q_=>q_) (λ_ q_=>q_) (λu=>?_) (λK fin=>?_)
  ·obtain⟨_,hd⟩:=u;have hk9:k<=9:=av;refine xS ?_;refine nI (l:=0) (h:=k+1) U U U hn Bd.no (Bd.at U nH) av av oM λa3 c3 hc3=>?_;simp only[Nat.sub_zero,fm];have hLl:(xs.take (k+1)).length=k+1:=bB;generalize xs.take (k+1)=L at*;refine xS ?_;refine X.loop (ι:={p:Nat×UInt64 // p.1<=k+1/\FN 0 0 L=FN p.1 p.2 (L.drop p.1)}) (λp=>([(5,aX k),(6,rQ p.1.2),(48,.slice a3 (k+1) c3),(49,aX (k+1:Nat)),(50,aX p.1.1)],[bV RB 1 a3 L])) (λp=>k+1 - p.1.1) ⟨(0,0),al _,by simp⟩ (Sub.of U) ay ?_;rintro⟨⟨i,t⟩,hi,hI⟩ ih;dsimp only at hi hI ih ⊢;refine xB ?_ ?_<;>intro h9
   ·have FL:i<L.length:=by grind
    rw[Rw L i FL]at hI;refine xS ?_;refine cH U U U U U FL hLl λb4 o4=>xS ?_;rw[show fO L[i]=.int .u8 L[i].toNat from rfl];refine xS ?_;rw[C8,Bn,show(7:Int)*(i:Int)=((7*i:Nat):Int)from by omega];refine Pq U U U U U av ?_;rw[bh2 _ (7*i) av];refine xS ?_;refine X.less (ih ⟨(i+1,t|||fE ((L[i]&&&127).toNat*2^(7*i))),by omega,?_⟩ gm) (Y7 U (eN U ?_) U U (eN U pH)) ay
    ·rw[hI]
    ·rw[Vl,UInt8.toNat_toUInt64];rfl
   ·have hik:i=k+1:=by grind
    subst hik;rw[bc av]at hI;refine xS ?_;refine out (t,(k:Int)+1,0) ?_ ?_ ?_ ?_
    ·rw[hd,hI];rfl
    all_goals rfl
  have last:∀(hd:rq xs=if 0<(k:Int)/\(xs.getD ((k:Int)).toNat 0).toNat=0 then(0,0,23)else(FN 0 0 (xs.take (((k:Int)).toNat+1)),(k:Int)+1,0)),(0<(k:Int)/\xs[k].toNat=0->rq xs=(0,0,23))/\(¬(0<(k:Int)/\xs[k].toNat=0)->rq xs=(FN 0 0 (xs.take (k+1)),(k:Int)+1,0)):=by
   grind
  refine xT 28 ?_ ?_<;>intro h3
  ·have hk9:k=9:=by grind
   have h9:(xs.getD 9 0)=xs[k]:=bE;refine xS ?_;refine cH U U U U U hk hn λb1 o1=>xS ?_;rw[show fO xs[k]=.int .u8 xs[k].toNat from rfl];refine xB ?_ ?_<;>intro h4
   ·refine xS ?_
    refine out (0,0,22) ?_ ?_ ?_ ?_
    ·grind
    all_goals rfl
   ·have hl:=last (by rw[ae3,if_neg (by rw[h9];simp at h4;omega)]);refine xT 38 ?_ ?_<;>intro h7
    ·have h70:0<(k:Int):=by omega
     exact bm3
    ·exact bt2
  ·have hk9:¬k=9:=by grind
   have hl:=last (by rw[ae3,if_neg av]);refine xT 38 ?_ ?_<;>intro h7
   ·have h70:0<(k:Int):=by grind
    exact bm3
   ·exact bt2
end
section
variable(l:List UInt8)(G:bZ)(p:Nat)(s:Bs×Bool)(a:Option Addr)(n c:Nat)(xs:List UInt8)(i:Nat)
def lF(p:Nat)(x:Bs×Bool):az:=ex fun(i:{q:Option Addr×Nat // x.1.length<=q.2})=>[bx p 527 [.slice i.1.1 x.1.length i.1.2,.bool x.2],bV RB 1 i.1.1 x.1]
def iS(n:Int)(s:Bs×Bool):Bs×(Bs×Bool):=if(s.1.length:Int)<n then([],(s.1,true))else(s.1.take n.toNat,(s.1.drop n.toNat,s.2))
def mQ(s:Bs×Bool):UInt64×(Bs×Bool):=if(rq s.1).2.2≠0 then(0,(s.1,true))else((rq s.1).1,(s.1.drop (rq s.1).2.1.toNat,s.2))
def iJ(s:Bs×Bool):Int×(Bs×Bool):=if 4294967295<(mQ s).1.toNat then(0,((mQ s).2.1,true))else((mQ s).1.toNat,(mQ s).2)
theorem Ry(l:Bs)(h:(rq l).2.2=0):0<(rq l).2.1/\(rq l).2.1<=l.length:=by
 grind [rq,uG,yB]
theorem Cm(n:Int)(s:Bs×Bool)(hn:0<=n):
 TR ab G 407 #[au p,.int .i64 n] [lF p s] (cb λv B=>v=ao (iS n s).1/\B=[lF p (iS n s).2]):=by
 refine aW U λb β hb hG=>?_
 obtain⟨l,w⟩:=s
 refine X.ma lF p U fun⟨⟨a,c⟩,hc⟩=>?_
 dsimp only at hc
 refine xD ?_
 refine xB ?_ ?_<;>intro h
 ·have e:iS n (l,w)=([],(l,true)):=by grind [iS]
  exact bj3
 ·obtain⟨m,rfl⟩:∃m:Nat,n=m:=⟨n.toNat,by omega⟩;have hm:m<=l.length:=bE;have e:iS m (l,w)=(l.take m,(l.drop m,w)):=by grind [iS]
  refine xS ?_;refine nI (l:=0) (h:=m) U U U U Bd.no (Bd.at U U) av hm hc λa2 c2 Nk=>?_;simp only[Nat.sub_zero,fm];have tV:(l.take m).length=m:=bB;generalize hL:l.take m=L at*;exact bp2
theorem vt(hs:s.1.length<=1099511627776):
 TR ab G 408 #[au p] [lF p s] (cb λv B=>v=.int .u64 (mQ s).1.toNat/\B=[lF p (mQ s).2]):=by
 refine cg U λb β hb hG=>?_
 obtain⟨l,w⟩:=s
 refine X.ma lF p U fun⟨⟨a,c⟩,hc⟩=>?_
 dsimp only at hc hs
 refine xD ?_
 refine xJ (Rx G a l.length c l U hc hs) ?_
 dsimp only[VP,rQ,aX]
 have hz:=Ry l
 have e:mQ (l,w)=if(rq l).2.2≠0 then(0,(l,true))else((rq l).1,(l.drop (rq l).2.1.toNat,w)):=U
 generalize rq l=q at*
 obtain⟨x,sz,er⟩:=q
 dsimp only at hz e ⊢
 refine xB ?_ ?_<;>intro h
 ·exact bq0
 ·have h0:er=0:=by grind
  rw[if_neg av]at e;have hz:=hz h0;obtain⟨m,rfl⟩:∃m:Nat,sz=m:=⟨sz.toNat,by omega⟩;have hm:m<=l.length:=av;exact bp2
theorem qq(hs:s.1.length<=1099511627776):
 TR ab G 409 #[au p] [lF p s] (cb λv B=>v=.int .i64 (iJ s).1/\B=[lF p (iJ s).2]):=by
 refine cg U λb β hb hG=>?_
 refine xH (vt G p s hs) ?_
 have e:iJ s=if 4294967295<(mQ s).1.toNat then(0,((mQ s).2.1,true))else(((mQ s).1.toNat:Int),(mQ s).2):=U
 generalize mQ s=q at*
 obtain⟨x,l,w⟩:=q
 dsimp only at e ⊢
 refine X.ma lF p U fun⟨⟨a,c⟩,hc⟩=>?_
 dsimp only at hc
 refine xD ?_
 refine xB ?_ ?_<;>intro h
 ·exact bq0
 ·have hx:¬4294967295<x.toNat:=by grind
  rw[if_neg hx]at e;refine xS ?_;rw[wrap_i64 _ av av];exact X.ret hb (.tmps U) ⟨_,⟨by rw[e];rfl,U⟩,by rw[e];exact nO lF p (l,w) U ⟨(a,c),hc⟩⟩
theorem Nl:
 TR ab G 410 #[au p] [lF p s] (cb λv B=>v=ao (iS s.1.length s).1/\B=[lF p (iS s.1.length s).2]):=by
 refine cg U λb β hb hG=>?_
 obtain⟨l,w⟩:=s
 refine X.ma lF p U fun⟨⟨a,c⟩,hc⟩=>?_
 dsimp only at hc
 refine xD ?_
 refine fi lF p (l,w) U ⟨(a,c),hc⟩ ?_
 refine bw (Cm G p l.length (l,w) av) ?_
 rintro _ _ ⟨rfl,rfl⟩
 refine xD ?_
 exact X.ret hb (.tmps U) ⟨_,⟨U,U⟩,fN [_] _⟩
theorem nX(n:Int)(s:Bs×Bool):(iS n s).2.1.length<=s.1.length:=by
 grind [iS]
theorem vu:(mQ s).2.1.length<=s.1.length:=by
 grind [mQ]
theorem lG:(iJ s).2.1.length<=s.1.length:=by
 grind [vu,iJ]
theorem jv:0<=(iJ s).1:=by
 grind [iJ]
theorem Bo(x:UInt8):dV.wrap (x.toNat:Int)=(x.toNat:Int):=by
 have:=x.toNat_lt;grind [wrap_i64]
theorem H3(m:Int)(h:0<=m):dK.wrap m=((gz m.toNat).toNat:Int):=by
 obtain⟨k,rfl⟩:∃k:Nat,m=k:=⟨m.toNat,by omega⟩;rw[yv];simp
def ru(f:mj)(s:Bs×Bool):mj×Bool:=if s.2=true\/s.1≠[]\/ca f≠0 then(.zero,false)else(f,true)
def Gx(s:Bs×Bool):Bs×(Bs×Bool):=iS s.1.length s
def np(body:Bs):mj×Bool:=
 match iS 1 (body,false)with
 |(kind,s)=>
  if s.2=true then(.zero,false)
  else
   if(kind.getD 0 0).toNat=1 then
    match mQ s with
    |(n,s)=>match iJ s with
     |(m,s)=>match iS m s with
      |(key,s)=>match Gx s with
       |(val,s)=>ru ⟨1,⟨n,1,key,val⟩,.zero,.zero⟩ s
   else if(kind.getD 0 0).toNat=2 then
    match mQ s with
    |(n,s)=>match Gx s with
     |(key,s)=>ru ⟨2,⟨n,2,key,[]⟩,.zero,.zero⟩ s
   else if(kind.getD 0 0).toNat=3 then
    match mQ s with
    |(n,s)=>match iS 1 s with
     |(of,s)=>match iJ s with
      |(at_,s)=>match iJ s with
       |(len,s)=>match Gx s with
        |(key,s)=>ru ⟨3,.zero,⟨n,if of=[]then 0 else(of.getD 0 0).toNat,at_,len,key⟩,.zero⟩ s
   else if(kind.getD 0 0).toNat=4 then
    match iJ s with
    |(x,s)=>match iJ s with
     |(y,s)=>match iJ s with
      |(z,s)=>match iJ s with
       |(u,s)=>ru ⟨4,.zero,.zero,⟨x,⟨y,z,gz u.toNat⟩⟩⟩ s
   else ru ⟨(kind.getD 0 0).toNat,.zero,.zero,.zero⟩ s
@[reducible] def bh5(p:mj×Bool):Value:=.tuple #[.agg p.1.cs.toArray,.bool p.2]
theorem VQ(body:Bs)(hn:body.length=n)(oM:n<=c)(hs:n<=1099511627776):
 TR ab G 328 #[.slice a n c] [bV RB 1 a body] (cT (bh5 (np body))):=by
 subst hn
 refine cg U λb β hb hG=>?_
 refine xA ?_
 intro b2
 refine X.box U U U U λb4=>?_
 refine fi lF b4 (body,false) U ⟨(a,c),oM⟩  ?_
 refine xH (Cm G b4 1 (body,false) av) ?_
 have l0:=nX 1 (body,false)
 have e0:np body=np body:=U
 conv at e0=>rhs;unfold np
 have hk0:(iS 1 (body,false)).2.2=false->0<(iS 1 (body,false)).1.length:=by
  grind [iS]
 generalize iS 1 (body,false)=q at*
 obtain⟨kind,s,w⟩:=q
 dsimp only at hk0 l0 e0 ⊢
 refine X.ma lF b4 U fun⟨⟨a1,c1⟩,Db⟩=>xD ?_
 refine xB ?_ ?_<;>intro h0
 ·rw[if_pos av]at e0;refine xS ?_;exact bO hb (.gX U U (.tmp U .nil)) ⟨by rw[e0];rfl,U⟩
 ·have hw:w=false:=by omega
  subst hw;have hk:=hk0 U;rw[if_neg nH]at e0;refine fi lF b4 (s,false) U ⟨(a1,c1),Db⟩ (xS ?_);refine kz (j:=0) U U U U U hk ?_;have hkd:kind.getD 0 0=kind[0]:=by simp[hk]
  rw[hkd]at e0;generalize hx:kind[0]=x at*;refine xS ?_;rw[Bo];refine xA ?_;intro b6;refine nh (ι:={p:mj×(Bs×Bool) // np body=ru p.1 p.2}) (λp=>([(2,au b2),(4,au b4),(6,au b6)],[bx b6 220 p.1.1.cs,lF b4 p.1.2,bx b2 220 mj.zero.cs])) (λp=>?_) (λK fin=>?_)
  ·obtain⟨⟨f,s,w⟩,hp⟩:=p;dsimp only at hp ⊢;refine X.ma lF b4 U fun⟨⟨a1,c1⟩,Db⟩=>xD ?_;unfold ru at hp;refine xT 107 ?_ ?_<;>intro h1
   ·rw[if_pos (.inl h1)]at hp;exact bo6
   ·refine xT 115 ?_ ?_<;>intro h2
    ·rw[if_pos (.inr (.inl bE))]at hp;exact bo6
    ·have M9:s=[]:=by simp_all
     refine xJ (JY G f) ?_;refine xB ?_ ?_<;>intro h3
     ·rw[if_pos (.inr (.inr bE))]at hp;exact bo6
     ·rw[if_neg bE]at hp;exact bo6
  ·have hx256:=x.toNat_lt;refine X.cd (Hs':=[bx b6 220 (mj.cs ⟨x.toNat,.zero,.zero,.zero⟩),lF b4 (s,false),bx b2 220 mj.zero.cs]) (jk U) ?_;refine xT 26 ?_ ?_<;>intro h1
   ·have jz:x.toNat=1:=by grind
    rw[if_pos jz]at e0;refine xH (vt G b4 (s,false) bE) ?_;have l1:=vu (s,false);generalize mQ (s,false)=q at*;obtain⟨n1,s1⟩:=q;dsimp only at l1 e0 ⊢;refine xS ?_;refine eR 5 [1] ?_;refine xL [0,1,2,3,4] ?_;refine xH (qq G b4 s1 av) ?_;have l2:=lG s1;have p2:=jv s1;generalize iJ s1=q at*;obtain⟨m2,s2⟩:=q;dsimp only at l2 p2 e0 ⊢;refine xH (Cm G b4 m2 s2 av) ?_;have l3:=nX m2 s2;generalize iS m2 s2=q at*;obtain⟨t3,s3⟩:=q;dsimp only at l3 e0 ⊢;refine xH (Nl G b4 s3) ?_;rw[show Gx s3=iS (s3).1.length s3 from rfl]at e0;have l4:=nX (s3).1.length s3;generalize iS (s3).1.length s3=q at*;obtain⟨t4,s4⟩:=q;dsimp only at l4 e0 ⊢;refine xS ?_;exact X.W (fin ⟨(⟨x.toNat,⟨n1,x.toNat,t3,t4⟩,.zero,.zero⟩,s4),by grind⟩)
   ·have C9:¬x.toNat=1:=by grind
    rw[if_neg C9]at e0;refine xT 43 ?_ ?_<;>intro h2
    ·have jz:x.toNat=2:=by grind
     rw[if_pos jz]at e0;refine xH (vt G b4 (s,false) bE) ?_;have l1:=vu (s,false);generalize mQ (s,false)=q at*;obtain⟨n1,s1⟩:=q;dsimp only at l1 e0 ⊢;refine xS ?_;refine eR 4 [1] ?_;refine xL [0,1,2,3] ?_;refine xH (Nl G b4 s1) ?_;rw[show Gx s1=iS (s1).1.length s1 from rfl]at e0;have l2:=nX (s1).1.length s1;generalize iS (s1).1.length s1=q at*;obtain⟨t2,s2⟩:=q;dsimp only at l2 e0 ⊢;refine xS ?_;exact X.W (fin ⟨(⟨x.toNat,⟨n1,x.toNat,t2,[]⟩,.zero,.zero⟩,s2),by grind⟩)
    ·have tH:¬x.toNat=2:=by grind
     rw[if_neg tH]at e0;refine xT 54 ?_ ?_<;>intro h3
     ·have jz:x.toNat=3:=by grind
      rw[if_pos jz]at e0;refine xH (vt G b4 (s,false) bE) ?_;have l1:=vu (s,false);generalize mQ (s,false)=q at*;obtain⟨n1,s1⟩:=q;dsimp only at l1 e0 ⊢;refine xH (Cm G b4 1 s1 av) ?_;have l2:=nX 1 s1;generalize iS 1 s1=q at*;obtain⟨t2,s2⟩:=q;dsimp only at l2 e0 ⊢;refine xS ?_;refine tU [2,4,6] [1] (ι:={o:Int // o=if t2=[]then 0 else((t2.getD 0 0).toNat:Int)}) (λo q_=>q_) (λo q_=>bx b6 220 (mj.cs ⟨x.toNat,.zero,⟨n1,o.1,0,0,[]⟩,.zero⟩)::q_) (λo=>?_) (λK2 J0=>?_)
      ·obtain⟨o,ho⟩:=o;rw[<-ho]at e0;dsimp only;refine xH (qq G b4 s2 av) ?_;have l3:=lG s2;have p3:=jv s2;generalize iJ s2=q at*;obtain⟨m3,s3⟩:=q;dsimp only at l3 p3 e0 ⊢;refine xH (qq G b4 s3 av) ?_;have l4:=lG s3;have p4:=jv s3;generalize iJ s3=q at*;obtain⟨m4,s4⟩:=q;dsimp only at l4 p4 e0 ⊢;refine xH (Nl G b4 s4) ?_;rw[show Gx s4=iS (s4).1.length s4 from rfl]at e0;have l5:=nX (s4).1.length s4;generalize iS (s4).1.length s4=q at*;obtain⟨t5,s5⟩:=q;dsimp only at l5 e0 ⊢;refine xS ?_;exact X.W (fin ⟨(⟨x.toNat,.zero,⟨n1,o,m3,m4,t5⟩,.zero⟩,s5),by grind⟩)
      ·refine xB ?_ ?_<;>intro h4
       ·have me:t2≠[]:=by grind
        have zW:=fy.2 me;refine xS ?_;refine kz (j:=0) U U U U U zW (xS ?_);rw[Bo];refine xS ?_;exact X.W (J0 ⟨(t2[0].toNat:Int),by grind⟩)
       ·have me:t2=[]:=by grind
        refine xS ?_;exact X.W (J0 ⟨0,by rw[if_pos me]⟩)
     ·have hn3:¬x.toNat=3:=by grind
      rw[if_neg hn3]at e0;refine xT 81 ?_ ?_<;>intro h4
      ·have jz:x.toNat=4:=by grind
       rw[if_pos jz]at e0;refine xH (qq G b4 (s,false) bE) ?_;have l1:=lG (s,false);have p1:=jv (s,false);generalize iJ (s,false)=q at*;obtain⟨m1,s1⟩:=q;dsimp only at l1 p1 e0 ⊢;refine xH (qq G b4 s1 av) ?_;have l2:=lG s1;have p2:=jv s1;generalize iJ s1=q at*;obtain⟨m2,s2⟩:=q;dsimp only at l2 p2 e0 ⊢;refine xH (qq G b4 s2 av) ?_;have l3:=lG s2;have p3:=jv s2;generalize iJ s2=q at*;obtain⟨m3,s3⟩:=q;dsimp only at l3 p3 e0 ⊢;refine xH (qq G b4 s3 av) ?_;have l4:=lG s3;have p4:=jv s3;generalize iJ s3=q at*;obtain⟨m4,s4⟩:=q;dsimp only at l4 p4 e0 ⊢;refine xS ?_;rw[H3 _ p4];refine xS ?_;exact X.W (fin ⟨(⟨x.toNat,.zero,.zero,⟨m1,⟨m2,m3,gz m4.toNat⟩⟩⟩,s4),by grind⟩)
      ·have hn4:¬x.toNat=4:=by grind
       rw[if_neg hn4]at e0;refine xS ?_;exact X.W (fin ⟨(⟨x.toNat,.zero,.zero,.zero⟩,(s,false)),e0⟩)
def lH:List UInt8->UInt8×Int×Int
 |[]=>(0,0,0)
 |c::r=>if c.toNat=167 then(0,0,31)else if c.toNat=166 then(match r with
  |[]=>(0,0,32)
  |d::_=>if 1<d.toNat then(0,0,32)else(166+d,2,0))else(c,1,0)
theorem mR(c:UInt8)(r:List UInt8):lH (c::r)=(if c.toNat=167 then((0,0,31):UInt8×Int×Int)else if c.toNat=166 then(match r with
 |[]=>((0,0,32):UInt8×Int×Int)
 |d::_=>if 1<d.toNat then(0,0,32)else(166+d,2,0))else(c,1,0)):=by
 unfold lH
 rfl
def H4(p:UInt8×Int×Int):Value:=.tuple #[fO p.1,aX p.2.1,aX p.2.2]
theorem aW8(hn:xs.length=n)(hs:n<=1099511627776)(hi:i<n):
 TR ab G 406 #[.slice a n c,aX i] [bV RB 1 a xs] (cT (H4 (lH (xs.drop i)))):=by
 refine aW U λb β hb hG=>?_
 have ZY:i<xs.length:=av
 have hd:xs.drop i=xs[i]::xs.drop (i+1):=aP ZY
 have out:∀{N vs k Hs} (p:UInt8×Int×Int),lH (xs.drop i)=p->lk vs 4=some (fO p.1)->lk vs 5=some (aX p.2.1)->lk vs 6=some (aX p.2.2)->X ab b β none (.it (.code .ret::k)) ⟨N,vs,[]⟩ Hs (cT (H4 (lH (xs.drop i)))):=by
  intro N vs k Hs p he h1 h2 h3;exact bO hb (.tmp h1 (.tmp h2 (.tmp h3 .nil))) ⟨by rw[he];rfl,U⟩
 refine xS ?_
 refine cH U U U U U ZY hn λbl o=>xS ?_
 rw[show fO xs[i]=.int .u8 xs[i].toNat from rfl]
 refine xB ?_ ?_<;>intro h1
 ·refine xS ?_
  refine out (0,0,31) ?_ ?_ ?_ ?_
  ·grind [mR]
  all_goals rfl
 ·refine xB ?_ ?_<;>intro h2
  ·refine xT 23 ?_ ?_<;>intro h3
   ·have h4:xs.drop (i+1)=[]:=bc bE
    refine xS ?_
    refine out (0,0,32) ?_ ?_ ?_ ?_
    ·grind [mR]
    all_goals rfl
   ·have h4:i+1<xs.length:=by grind
    have h5:xs.drop (i+1)=xs[i+1]::xs.drop (i+2):=aP h4;refine xS ?_;refine cH (j:=i+1) U U U U av h4 hn λVM o2=>xS ?_;rw[show fO xs[i+1]=.int .u8 xs[i+1].toNat from rfl];refine xB ?_ ?_<;>intro h6
    ·refine xS ?_
     refine out (0,0,32) ?_ ?_ ?_ ?_
     ·grind [mR]
     all_goals rfl
    ·refine xS ?_
     refine cH (j:=i+1) U U U U av h4 hn λbl3 o3=>xS ?_
     refine out (166+xs[i+1],2,0) ?_ ?_ ?_ ?_
     ·grind [mR]
     ·refine eN U ?_
      show eL .u8 (cC.wrap (166+(xs[i+1].toNat:Int)))=eL .u8 ((166+xs[i+1]:UInt8).toNat)
      grind [Bk,UInt8.toNat_add]
     all_goals rfl
  ·refine xS ?_
   refine out (xs[i],1,0) ?_ ?_ ?_ ?_
   ·grind [mR]
   all_goals rfl
def oO:Nat->List UInt8->Int->List UInt8->List UInt8×Int×Int
 |0,_,_,acc=>(acc,0,0)
 |f+1,l,i,acc=>if l.isEmpty then(acc,0,0)else
  if(lH l).2.2=0 then oO f (l.drop (lH l).2.1.toNat) (i+(lH l).2.1) (acc++[(lH l).1])else([],(lH l).2.2,i)
def nr(l:List UInt8):List UInt8×Int×Int:=oO l.length l 0 []
theorem J1(h:l≠[])(h0:(lH l).2.2=0):1<=(lH l).2.1/\(lH l).2.1<=l.length:=by
 cases l<;>grind [mR]
def bh6(p:List UInt8×Int×Int)(v:Value)(B:List az):Prop:=
 (p.2.1=0/\∃a c,v=.tuple #[.slice a p.1.length c,aX 0,aX 0]/\B=[own 5 1 a p.1.length c (p.1.map fO)])\/
 (p.2.1≠0/\v=.tuple #[.slice none 0 0,aX p.2.1,aX p.2.2]/\B=[])
theorem ae5(hn:xs.length=n)(hs:n<=1099511627776):
 TR ab G 327 #[.slice a n c] [bV RB 1 a xs] (cb (bh6 (nr xs))):=by
 refine cg U λb β hb hG=>xS ?_
 refine av5 (cp:=n) U U U U U av av λa1=>xS ?_
 refine X.loop (ι:={p:Nat×List UInt8×Option Addr×Nat // p.1<=n/\p.2.1.length<=p.1/\∃f,n - p.1<=f/\nr xs=oO f (xs.drop p.1) p.1 p.2.1}) (λp=>([(0,.slice a n c),(5,.slice p.1.2.2.1 p.1.2.1.length p.1.2.2.2),(6,aX p.1.1)],[own 5 1 p.1.2.2.1 p.1.2.1.length p.1.2.2.2 (p.1.2.1.map fO),bV RB 1 a xs])) (λp=>n - p.1.1) ⟨(0,[],a1,n),al _,ar _,n,ar _,by rw[nr,hn];rfl⟩ (Sub.of U) (aN.refl _) ?_
 rintro⟨⟨i,Z,a2,c2⟩,hi,hZ,f,hf,hE⟩ ih
 dsimp only at hi hZ hf hE ih ⊢
 refine xB ?_ ?_<;>intro h1
 ·have FL:i<n:=by grind
  have me:xs.drop i≠[]:=by simp_all
  obtain⟨f,rfl⟩:∃q,f=q+1:=by
   cases f<;>grind
  refine xJ (aW8 G a n c xs i hn hs FL) ?_;rw[oO]at hE;simp only[List.isEmpty_iff,me,if_false]at hE;have xz:=J1 (xs.drop i) me;generalize lH (xs.drop i)=p at*;obtain⟨p1,p2,p3⟩:=p;dsimp only at hE xz;dsimp only[H4];refine xB ?_ ?_<;>intro h2
  ·have h3:¬p3=0:=by grind
   rw[if_neg h3]at hE;refine xS ?_;refine X.ret hb (.tmps U) ⟨_,.inr ⟨by grind,by rw[hE];rfl,U⟩,aN.nil _⟩
  ·have h3:p3=0:=by grind
   rw[if_pos h3]at hE;have xz:=xz h3;simp only[List.length_drop]at xz;obtain⟨m,rfl⟩:∃m:Nat,p2=m:=⟨p2.toNat,by omega⟩;refine xS ?_;refine lB U U iA iA iA iA iA iA λb2=>?_;refine sA U U U U iA iA iA iA av λa3 c3=>xS ?_;refine X.less (ih ⟨(i+m,Z++[p1],a3,c3),by omega,by simp;omega,f,by omega,?_⟩ gm) (s3_ U (eN U ?_) (eN U ?_)) ?_
   ·rw[hE];simp
   ·simp
   ·simp[aX]
   ·dsimp only;refine jk ?_;simp[fO]
 ·have fw:i=n:=by grind
  subst fw;have VN:nr xs=(Z,0,0):=by
   rw[hE,bc av];cases f<;>simp[oO]
  refine xS ?_;refine X.ret hb (.tmps U) ⟨_,.inl ⟨by rw[VN],a2,c2,by rw[VN];rfl,U⟩,?_⟩;rw[VN];exact(cQ _ _ _).trans (aN.drop _ _)
instance:CX ab 469 Extern.BytealgIndexByte.indexByte:=⟨λargs w=>run_callFunc_extern (fn:=Tryz.f469) U U U U U args w⟩
theorem sM(cv:UInt8)(hn:xs.length=n):
 TR ab G 405 #[.slice a n c,fO cv] [bV RB 1 a xs] (cT (aX (cE xs cv))):=by
 refine aW U λb β hb hG=>xS ?_
 refine CW U U U (λw hs=>ad4 cv hs hn)  ?_
 exact xR
theorem yC(c:UInt8):cE l c<l.length\/cE l c= -1:=by
 induction l<;>grind [cE]
def H5(xs:List UInt8):Int:=if 0<=cE xs 167 then cE xs 167 else xs.length
theorem ae6(hn:xs.length=n)(oM:n<=c)(hs:n<=1099511627776):
 TR ab G 325 #[.slice a n c,aX 0] [bV RB 1 a xs] (cT (aX (H5 xs))):=by
 refine aW U λb β hb hG=>xS ?_
 have h0:(if(n:Int)<(if(0:Int)<0 then 0 else 0)then(n:Int)else(if(0:Int)<0 then 0 else 0))=0:=bB
 refine nI (l:=0) (h:=n) U U U hn (Bd.at U h0) Bd.no av av oM λa2 c2 Nk=>?_
 have hL:(xs.drop 0).take (n - 0)=xs:=by simp[<-hn]
 rw[hL]
 simp only[Nat.sub_zero]
 have hge:=Lib.indexByte_ge xs 167
 have hle:cE xs 167<=n:=by have:=yC xs 167;omega
 refine xJ (sM G a2 n c2 xs 167 hn) ?_
 unfold H5
 generalize cE xs 167=q at*
 refine xB ?_ ?_<;>intro h
 ·have hq:0<=q:=by grind
  refine xS ?_
  refine bO hb (.tmps U) ⟨?_,U⟩
  grind [lx,aX]
 ·have hq:¬0<=q:=by grind
  refine xS ?_;refine bO hb (.tmps U) ⟨by rw[if_neg hq,hn];rfl,U⟩
def H6(s:UInt32):UInt32:=(s>>>1)^^^(0x82f63b78&&&(0 - (s&&&1)))
def sO(s:UInt32)(x:UInt8):UInt32:=Nat.repeat H6 8 (s^^^x.toUInt32)
def pK(s:UInt32)(l:List UInt8):UInt32:= ~~~ (l.foldl sO (~~~ s))
theorem VR(t:UInt32)(i:Nat)(h:i<xs.length):(xs.take (i+1)).foldl sO t=sO ((xs.take i).foldl sO t) xs[i]:=by
 grind [dd]
theorem Nn(s:UInt32)(a:Option Addr)(n c:Nat)(xs:List UInt8)(hn:xs.length=n)(hs:n<=1099511627776):
 TR ab G 398 #[.int .u32 s.toNat,.slice a n c] [bV RB 1 a xs] (cb λv B=>v=.int .u32 (pK s xs).toNat/\B=[]):=by
 refine TR.go (us:=[.int .u32 s.toNat,.slice a n c]) (aI U) λb β hb hG=>xS ?_
 rw[PE]
 refine eT [10,11] [] (ι:={i:Nat // i<=n}) (λi q_=>(5,.int .u32 ((xs.take i.1).foldl sO (~~~ s)).toNat)::(12,.int .i64 i.1)::q_) (λi q_=>q_) (λi=>n - i.1) ⟨0,al _⟩ ?_
 rintro⟨i,hi⟩ ih
 dsimp only
 refine xB ?_ ?_<;>intro h
 ·have hi:i<xs.length:=by grind
  refine xS ?_;refine cH U U U U U hi hn λbl o=>xS ?_;rw[show fO xs[i]=.int .u8 xs[i].toNat from rfl];rw[JE,HT];refine eT [10,11,12] [0] (ι:={i:Nat // i<=8}) (λj q_=>(5,.int .u32 (Nat.repeat H6 j.1 ((xs.take i).foldl sO (~~~ s)^^^xs[i].toUInt32)).toNat)::(20,.int .i64 j.1)::q_) (λj q_=>q_) (λj=>8 - j.1) ⟨0,al _⟩ ?_;rintro⟨j,hj⟩ pG;dsimp only;generalize hT:Nat.repeat H6 j ((xs.take i).foldl sO (~~~ s)^^^xs[i].toUInt32)=T;refine xB ?_ ?_<;>intro h2
  ·have hj2:j<8:=by grind
   refine xS ?_
   refine X.less (pG ⟨j+1,hj2⟩ bE) (Sub.cons ?_ (Sub.of U)) ay
   have e1:=PC T 1
   have e2:=ac5 (T&&&1)
   have e3:=PC 0x82f63b78 (0 - (T&&&1))
   have e4:=ac6 T 1 de
   have e5:=HT (T>>>1) (0x82f63b78&&&(0 - (T&&&1)))
   show some (eL .u32 _)=some (eL .u32 _)
   congr 2
   refine Eq.trans ?_ (e5.trans ?_)
   ·grind
   ·rw[Nat.repeat,hT];rfl
  ·refine xS ?_;have hj8:j=8:=bE;subst hj8;refine X.less (ih ⟨i+1,by omega⟩ bE) (Sub.cons ?_ (Sub.of U)) ay;show some (eL .u32 _)=some (eL .u32 _);rw[VR _ _ _ av,<-hT];rfl
 ·have fw:i=n:=by grind
  subst fw;refine xS ?_;rw[PE];refine X.ret hb (.tmps U) ⟨[],⟨?_,U⟩,aN.drop _ _⟩;show eL .u32 _=_;rw[aD av];rfl
end
section
variable{e:Int}(l b:Bs)(i k:Nat)(G:bZ)(f:mj)(a:Option Addr)(n c:Nat)(xs:Bs)
def mC(l:List (List UInt8)):UInt32:=l.foldl pK 0
theorem J2(xs:List (List UInt8))(i:Nat)(h:i<xs.length):mC (xs.take (i+1))=pK (mC (xs.take i)) xs[i]:=by
 grind [mC,dd]
theorem Dc(xs:List (List UInt8))(hn:xs.length=n)(hs:n<=1099511627776)(hb:∀x∈xs,x.length<=1099511627776):
 TR ab G 307 #[.slice a n c] [bV (RSl RB 1) 1 a xs] (cT (Rj (mC xs))):=by
 refine cg U λb β l9 hG=>xS ?_
 refine eT [6,7] [] (ι:={i:Nat // i<=n}) (λi q_=>(3,Rj (mC (xs.take i.1)))::(8,.int .i64 i.1)::q_) (λi q_=>q_) (λi=>n - i.1) ⟨0,al _⟩ ?_
 rintro⟨i,hi⟩ ih
 dsimp only
 refine xB ?_ ?_<;>intro h
 ·have hi:i<xs.length:=by grind
  refine xS ?_;refine cH U U U U U hi hn λbl o=>?_;refine bc7 bl λa2 c2 Nk=>xS ?_;refine ei hG (Nn G _ a2 _ c2 xs[i] U (hb _ nH)) U U U (aN.es (A:=[bV RB 1 a2 xs[i]])) ?_;rintro _ _ ⟨rfl,rfl⟩;refine xS ?_;refine X.less (ih ⟨i+1,by omega⟩ bE) (Sub.cons (eN U ?_) (Sub.of U)) ?_
  ·rw[J2 _ _ hi];rfl
  ·exact(aN.drop _ _).trans (aN.drop _ _)
 ·have fw:i=n:=by grind
  subst fw;refine xS ?_;refine X.ret l9 (.tmps U) ⟨_,⟨?_,U⟩,aN.nil _⟩;rw[aD av];rfl
def jw:Nat->Bs->Int
 |0,_=>0
 |_+1,[]=>43
 |k+1,c::r=>if 127<c.toNat then 42 else jw k r
def fD(b:Bs):Int×Int:=if jw 3 b≠0 then(0,jw 3 b)else((pJ b 3).1.toNat,0)
theorem J3:∀(l:Bs) (n:UInt64) (k:Nat),n.toNat<2^(7*k)->k+l.length<=9->(qp l n).2=0->(qp l n).1.toNat<2^(7*(k+l.length))
 |[],n,k,h,_,_=>by grind [qp]
 |c::r,n,k,h,hk,h0=>by
  simp only[ax]at hk;unfold qp at h0 ⊢;split at h0
  ·simp at h0
  ·rename_i hc
   rw[if_neg hc]
   have h1:n.toNat*128<2^(7*(k+1)):=bE
   have h64:2^(7*(k+1))<=2^63:=Nat.pow_le_pow_right de av
   have:=J3 r (fE (n.toNat*128)|||c.toUInt64) (k+1) (by
    rw[UInt64.toNat_or]
    refine Nat.or_lt_two_pow ?_ ?_
    ·grind [UInt64.toNat_ofNat']
    ·have:c.toUInt64.toNat=c.toNat:=by simp
     grind) av h0
   grind
theorem PQ(hk:k<=9):(pJ b k).1.toNat<2^(7*k):=by
 have hp:0<2^(7*k):=Nat.pow_pos de
 unfold pJ
 split
 ·grind
 ·split
  ·grind
  ·by_cases h:(qp (b.take (k:Int).toNat) 0).2=0
   ·have hl:(b.take (k:Int).toNat).length=k:=by simp;omega
    have:=J3 (b.take (k:Int).toNat) 0 0 nH av h
    grind
   ·have key:∀(l:Bs) (n:UInt64),(qp l n).2≠0->(qp l n).1=0:=by
     intro l;induction l<;>grind [qp]
    simp_all
theorem Bp:0<=(fD b).1/\(fD b).1<2097152:=by
 unfold fD;split
 ·simp
 ·have:=PQ b 3 de
  grind
theorem BW(h:i<b.length):jw (k+1) (b.drop i)=if 127<b[i].toNat then 42 else jw k (b.drop (i+1)):=by
 rw[aP h,jw]
theorem Rz(hn:xs.length=n)(oM:n<=c)(hs:n<=1099511627776):
 TR ab G 324 #[.slice a n c] [bV RB 1 a xs] (cT (.tuple #[.int .i64 (fD xs).1,.int .i64 (fD xs).2])):=by
 refine cg U λb β hb hG=>?_
 have out:∀{N vs k Hs} (x e:Int),fD xs=(x,e)->lk vs 2=some (.int .i64 x)->lk vs 3=some (.int .i64 e)->X ab b β none (.it (.code .ret::k)) ⟨N,vs,[]⟩ Hs (cT (.tuple #[.int .i64 (fD xs).1,.int .i64 (fD xs).2])):=by
  intro N vs k Hs x e he h1 h2;exact aG5
 refine xS ?_
 refine eT [0,2,3] [] (ι:={i:Nat // i<=3/\jw 3 xs=jw (3 - i) (xs.drop i)}) (λi q_=>(7,.int .i64 i.1)::q_) (λi q_=>q_) (λi=>3 - i.1) ⟨0,by decide,U⟩ ?_
 rintro⟨i,hi,hI⟩ ih
 dsimp only at hi hI ih ⊢
 refine xB ?_ ?_<;>intro h1
 ·have hi3:i<3:=by grind
  obtain⟨k,hk⟩:∃k,3 - i=k+1:=⟨2 - i,by omega⟩;refine xB ?_ ?_<;>intro h2
  ·have h43:jw 3 xs=43:=by
    simp at h2;rw[hI,hk,bc av];rfl
   refine xS ?_;exact out 0 43 (by grind [fD]) U U
  ·have FL:i<xs.length:=by grind
   rw[hk,BW xs i k FL]at hI;refine xS ?_;refine cH U U U U U FL hn λbl o=>xS ?_;rw[show fO xs[i]=.int .u8 xs[i].toNat from rfl];refine xB ?_ ?_<;>intro h3
   ·have h42:jw 3 xs=42:=by grind
    refine xS ?_;exact out 0 42 (by grind [fD]) U U
   ·refine xS ?_;refine X.W (ih ⟨i+1,by omega,by grind⟩ bE)
 ·have hi3:i=3:=by grind
  subst hi3;have h0:jw 3 xs=0:=by rw[hI];rfl
  refine xJ (Gv G a n c xs 3 hn oM hs) ?_;have tV:=PQ xs 3 de;rw[show((3:Nat):Int)=3 from rfl]at tV;simp only[Nat.reduceMul,Nat.reducePow]at tV;refine xS ?_;rw[wrap_i64 _ av av];exact out _ 0 (by grind [fD]) U U
theorem yD:∀(f:Nat) (l:Bs) (i:Int) (acc:Bs),(oO f l i acc).1.length<=acc.length+f
 |0,_,_,acc=>by simp[oO]
 |f+1,l,i,acc=>by
  unfold oO;split
  ·simp
  ·split
   ·have:=yD f (l.drop (lH l).2.1.toNat) (i+(lH l).2.1) (acc++[(lH l).1]);simp at this;omega
   ·simp
theorem J4:(nr l).1.length<=l.length:=by
 grind [yD,nr]
def rS(d:Bs):mj×Int×Int:=
 if(d.getD 0 0).toNat≠167 then(.zero,0,41)
 else if(fD (d.drop 1)).2≠0 then(.zero,0,(fD (d.drop 1)).2)
 else if d.length<(fD (d.drop 1)).1.toNat+9 then(.zero,0,43)
 else if H5 ((d.drop 4).take (fD (d.drop 1)).1.toNat)<(fD (d.drop 1)).1 then(.zero,0,45)
 else if(pJ ((d.drop (4+(fD (d.drop 1)).1.toNat)).take 5) 5).2≠0\/(pJ ((d.drop (4+(fD (d.drop 1)).1.toNat)).take 5) 5).1.toNat≠(pK 0 ((d.drop 1).take ((fD (d.drop 1)).1.toNat+3))).toNat then(.zero,0,44)
 else if(nr ((d.drop 4).take (fD (d.drop 1)).1.toNat)).2.1≠0 then(.zero,0,45)
 else if(np (nr ((d.drop 4).take (fD (d.drop 1)).1.toNat)).1).2=false then(.zero,0,45)
 else((np (nr ((d.drop 4).take (fD (d.drop 1)).1.toNat)).1).1,(fD (d.drop 1)).1+9,0)
def bL(b:Bs)(at_:Int):mj×Int×Int:=
 if at_<0\/b.length<=at_ then(.zero,0,40)else rS (b.drop at_.toNat)
@[reducible] def RA(p:mj×Int×Int):Value:=.tuple #[.agg p.1.cs.toArray,.int .i64 p.2.1,.int .i64 p.2.2]
theorem Dd{α:Type}(xs:List α)(l n:Nat)(hn:xs.length=n):(xs.drop l).take (n - l)=xs.drop l:=by
 grind [aD]
theorem pW(at_:Int)(hn:xs.length=n)(oM:n<=c)(hs:n<=1099511627776):
 TR ab G 219 #[.slice a n c,.int .i64 at_] [bV RB 1 a xs] (cT (RA (bL xs at_))):=by
 refine aW U λb β hb hG=>?_
 have out:∀{N vs k Hs rs} (b4:Nat) (f:mj) (x e:Int),bL xs at_=(f,x,e)->lk vs 4=some (au b4)->lk vs 5=some (.int .i64 x)->lk vs 6=some (.int .i64 e)->FB Hs b4 220 f.cs rs->X ab b β none (.it (.code .ret::k)) ⟨N,vs,[]⟩ Hs (cT (RA (bL xs at_))):=by
  intro N vs k Hs rs b4 f x e he h1 h2 h3 hf;exact bO hb (.gX h1 U (.tmp h2 (.tmp h3 .nil))) ⟨by rw[he];rfl,U⟩
 have J5:∀{N vs k Hs rs} (b4:Nat) (e:Int),bL xs at_=(.zero,0,e)->lk vs 4=some (au b4)->lk vs 5=some (.int .i64 0)->lk vs 6=some (.int .i64 e)->FB Hs b4 220 [.int .i64 0,.int .u64 0,.int .i64 0,ao [],ao [],.int .u64 0,.int .i64 0,.int .i64 0,.int .i64 0,ao [],.int .i64 0,.int .i64 0,.int .i64 0,.int .u32 0] rs->X ab b β none (.it (.code .ret::k)) ⟨N,vs,[]⟩ Hs (cT (RA (bL xs at_))):=by
  intro N vs k Hs rs b4 e he h1 h2 h3 hf;exact out b4 .zero 0 e he h1 h2 h3 hf
 refine xA ?_
 intro b4
 refine xT 20 ?_ ?_<;>intro h1
 ·exact aK3
 ·refine xB ?_ ?_<;>intro h2
  ·exact aK3
  ·obtain⟨m,rfl⟩:∃m:Nat,at_=m:=⟨at_.toNat,by grind⟩;have hm:m<xs.length:=bE;have hE:bL xs m=rS (xs.drop m):=by grind [bL]
   unfold rS at hE;have hd0:((xs.drop m).getD 0 0)=xs[m]:=by simp[hm]
   have ZZ:(xs.drop m).drop 1=xs.drop (m+1):=nH;rw[hd0,ZZ]at hE;refine xS ?_;refine cH U U U U U hm hn λbl o=>xS ?_;rw[show fO xs[m]=.int .u8 xs[m].toNat from rfl];refine xB ?_ ?_<;>intro h3
   ·rw[if_pos bE]at hE;refine xS ?_;exact J5 b4 41 hE U U U inferInstance
   ·rw[if_neg bE]at hE;refine xS ?_;refine nI (l:=m+1) (h:=n) U U U hn (Bd.at U nH) Bd.no av (ar _) oM λa1 c1 Db=>?_;rw[Dd xs (m+1) n hn];refine xJ (Rz G a1 (n - (m+1)) c1 (xs.drop (m+1)) Rb Db av) ?_;have hL:=Bp (xs.drop (m+1));generalize hq:fD (xs.drop (m+1))=q at*;obtain⟨l,e⟩:=q;dsimp only at hL hE ⊢;refine xB ?_ ?_<;>intro h4
    ·rw[if_pos bE]at hE;refine xS ?_;exact J5 b4 e hE U U U inferInstance
    ·rw[if_neg bE]at hE;obtain⟨k,rfl⟩:∃k:Nat,l=k:=⟨l.toNat,by omega⟩;simp only[fG]at hE;refine xB ?_ ?_<;>intro h5
     ·rw[if_pos bE]at hE;refine xS ?_;exact J5 b4 43 hE U U U inferInstance
     ·have hlen:m+k+9<=n:=by grind
      rw[if_neg bB]at hE;refine xS ?_;refine nI (l:=m+4) (h:=m+4+k) U U U hn (Bd.at U nH) (Bd.at U nH) av av oM λa2 c2 Nk=>?_;rw[show m+4+k - (m+4)=k from by omega]at Nk ⊢;rw[List.drop_drop]at hE;have hEl:((xs.drop (m+4)).take k).length=k:=bB;have hop:=J4 ((xs.drop (m+4)).take k);generalize(xs.drop (m+4)).take k=es at*;refine xJ (ae6 G a2 k c2 es hEl Nk av) ?_;refine xB ?_ ?_<;>intro h6
      ·exact bw8
      ·rw[if_neg bE]at hE;refine xS ?_;refine nI (l:=m+4+k) (h:=m+4+k+5) U U U hn (Bd.at U nH) (Bd.at U nH) av av oM λa3 c3 hc3=>?_;rw[show m+4+k+5 - (m+4+k)=5 from by omega]at hc3 ⊢;rw[List.drop_drop,<-Nat.add_assoc]at hE;have h5l:((xs.drop (m+4+k)).take 5).length=5:=bB;generalize(xs.drop (m+4+k)).take 5=d5 at*;refine xJ (Gv G a3 5 c3 d5 5 h5l hc3 av) ?_;have e44:(pJ d5 5).2≠0\/(pJ d5 5).1.toNat≠(pK 0 ((xs.drop (m+1)).take (k+3))).toNat->bL xs m=(.zero,0,44):=λh=>by rw[hE,if_pos h]
       have e45:¬((pJ d5 5).2≠0\/(pJ d5 5).1.toNat≠(pK 0 ((xs.drop (m+1)).take (k+3))).toNat)->_:=λh=>hE.trans (if_neg h);clear hE;generalize pJ d5 5=q5 at*;obtain⟨sum,es5⟩:=q5;dsimp only at e44 e45 ⊢;refine xT 78 ?_ ?_<;>intro h7
       ·refine xS ?_;exact J5 b4 44 (e44 (.inl bE)) U U U inferInstance
       ·refine xS ?_;refine nI (l:=m+1) (h:=m+4+k) U U U hn (Bd.at U nH) (Bd.at U nH) av av oM λa6 c6 hc6=>?_;rw[show m+4+k - (m+1)=k+3 from by omega]at hc6 ⊢;have h6l:((xs.drop (m+1)).take (k+3)).length=k+3:=bB;generalize(xs.drop (m+1)).take (k+3)=d6 at*;refine xZ ?_;intro b7;refine HP b7 (x:=d6) h6l hc6 ?_;refine xJ (Dc G _ 1 1 [d6] U av bB) ?_;rw[show mC [d6]=pK 0 d6 from rfl];have wm:=(pK 0 d6).toNat_lt;have sI:=sum.toNat_lt;generalize pK 0 d6=cr at*;refine xS ?_;rw[wrap_u64 _ av];refine xB ?_ ?_<;>intro h8
        ·refine xS ?_;exact J5 b4 44 (e44 (.inr bE)) U U U inferInstance
        ·have hE:=e45 bE;clear e44 e45;refine xS ?_;refine bw (ae5 G a2 k c2 es hEl av) ?_;rintro v B (⟨h0,a8,c8,rfl,rfl⟩|⟨h0,rfl,rfl⟩)
         ·rw[if_neg av]at hE;dsimp only[ae,ai,ah];have tJ:(nr es).1.length<=1099511627776:=av;generalize(nr es).1=body at*;refine xS ?_;refine iE a8 U λhc8=>?_;refine xJ (VQ G a8 body.length c8 body U hc8 tJ) ?_;generalize np body=fp at*;obtain⟨f,ok⟩:=fp;dsimp only[bh5]at hE ⊢;refine xA ?_;intro b9;refine xB ?_ ?_<;>intro h9
          ·exact bw8
          ·rw[if_neg bE]at hE;refine xS ?_;rw[show(4:Int)+(k:Int)+5=(k:Int)+9 from by omega];exact out b4 f _ 0 hE U U U inferInstance
         ·rw[if_pos av]at hE;refine xD ?_;refine HM (by show some (jZ _)=_;grind) (xS ?_);exact J5 b4 45 hE U U U inferInstance
instance:CX ab 492 Extern.BytealgCount.count:=⟨λargs w=>run_callFunc_extern (fn:=Tryz.f492) U U U U U args w⟩
theorem J6(bl c2:Nat)(cv:UInt8)(hn:xs.length=n):
 TR ab G 466 #[.slice a n c,.slice (some ⟨bl,0,none⟩) 1 c2] [bV RB 1 a xs,bV RB 1 (some ⟨bl,0,none⟩) [cv]] (cT (.int .i64 (bP xs cv))):=by
 refine aW U λb β hb hG=>xS ?_
 refine cH (xs:=[cv]) (j:=0) U U U U U nH U λb1 o1=>xS ?_
 refine CW U U U (λw hs=>ad7 cv hs hn)  ?_
 exact xR
theorem pL(c:UInt8):bP l c<=l.length:=List.count_le_length
theorem No(hn:xs.length=n)(hs:n<=1099511627776):
 TR ab G 397 #[.slice a n c] [bV RB 1 a xs] (cT (.int .i64 (n+bP xs 167+bP xs 166))):=by
 have h1:=pL xs 167
 have h2:=pL xs 166
 refine cg U λb β hb hG=>?_
 refine xZ ?_
 intro b1
 refine iu b1 (λx=>[fO x]) [167] U (λ_=>rfl) ?_
 refine xJ (J6 G a n c xs b1 1 167 hn) ?_
 refine xZ ?_
 intro b2
 refine iu b2 (λx=>[fO x]) [166] U (λ_=>rfl) ?_
 refine xJ (J6 G a n c xs b2 1 166 hn) ?_
 exact xR
def Gy(c:UInt8):Bs:=if c.toNat=167 then[166,1]else if c.toNat=166 then[166,0]else[c]
def pM(l:Bs):Bs:=l.flatMap Gy
theorem H7(i:Nat)(h:i<xs.length):pM (xs.take (i+1))=pM (xs.take i)++Gy xs[i]:=by
 grind [pM,dd]
theorem uH:(pM l).length<=2*l.length:=by
 unfold pM;induction l<;>grind [Gy]
theorem ae7(hn:xs.length=n)(hs:n<=1099511627776):
 TR ab G 305 #[.slice a n c] [bV RB 1 a xs] (cb (ad5 (pM xs))):=by
 have h1:=pL xs 167
 have h2:=pL xs 166
 refine cg U λb β hb hG=>?_
 refine xJ (No G a n c xs hn hs) ?_
 refine av5 (cp:=n+bP xs 167+bP xs 166) U U U U nH av av λa1=>xS ?_
 refine eT [0,9,10] [0] (ι:={p:Nat×Bs×Option Addr×Nat // p.1<=n/\p.2.1=pM (xs.take p.1)}) (λp q_=>(3,.slice p.1.2.2.1 p.1.2.1.length p.1.2.2.2)::(11,.int .i64 p.1.1)::q_) (λp q_=>own 5 1 p.1.2.2.1 p.1.2.1.length p.1.2.2.2 (p.1.2.1.map fO)::q_) (λp=>n - p.1.1) ⟨(0,[],a1,_),al _,U⟩ ?_
 rintro⟨⟨i,Z,a2,c2⟩,hi,hZ⟩ ih
 dsimp only at hi hZ ih ⊢
 have BT:Z.length<=2*n:=by grind [uH]
 refine xB ?_ ?_<;>intro h3
 ·have FL:i<xs.length:=by grind
  have hT:=H7 xs i FL;rw[<-hZ]at hT;refine xS ?_;refine cH U U U U U FL hn λbl o=>xS ?_;rw[show fO xs[i]=.int .u8 xs[i].toNat from rfl];generalize xs[i]=x at*;refine xB ?_ ?_<;>intro h4
  ·rw[Gy,if_pos bE]at hT;refine xZ ?_;intro b3;refine iu b3 (λx=>[fO x]) [166,1] U (λ_=>rfl) ?_;refine iw U U U U U bB λa3 c3=>xS ?_;exact X.W (ih ⟨(i+1,Z++[166,1],a3,c3),by omega,by grind⟩ bE)
  ·refine xB ?_ ?_<;>intro h5
   ·rw[Gy,if_neg bE,if_pos bE]at hT;refine xZ ?_;intro b3;refine iu b3 (λx=>[fO x]) [166,0] U (λ_=>rfl) ?_;refine iw U U U U U bB λa3 c3=>xS ?_;exact X.W (ih ⟨(i+1,Z++[166,0],a3,c3),by omega,by grind⟩ bE)
   ·rw[Gy,if_neg bE,if_neg bE]at hT;refine xZ ?_;intro b3;refine iu b3 (λx=>[fO x]) [x] U (λ_=>rfl) ?_;refine iw U U U U U bB λa3 c3=>xS ?_;exact X.W (ih ⟨(i+1,Z++[x],a3,c3),by omega,by grind⟩ bE)
 ·have fw:i=n:=by grind
  subst fw;rw[aD av]at hZ;refine xS ?_;exact X.ret hb (.tmps U) ⟨_,⟨a2,c2,by rw[hZ];rfl,U⟩,by rw[hZ];exact ay⟩
def VT(f:mj):Prop:=
 (f.kind=1\/f.kind=2\/f.kind=3\/f.kind=4)/\f.kG.key.length<=64/\f.kG.val.length<=2048/\f.ptr.key.length<=64/\
 0<=f.ptr.at_/\f.ptr.at_<=4194304/\0<=f.ptr.len/\f.ptr.len<=4194304/\0<=f.fin.count/\f.fin.count<=4194304/\0<=f.fin.print.bytes/\f.fin.print.bytes<=4194304/\0<=f.fin.print.bz/\f.fin.print.bz<=4194304
theorem De{eB:Int}{key val:Bs}{kind:Int}(h:oN eB key val kind=0):eB≠0/\1<=key.length/\key.length<=64/\val.length<=2048/\(kind=2->val=[]):=by
 grind [oN]
theorem wL{f:mj}{r:Bool}{o:mj}(h:uE f e r o=0):e=0/\r=true/\o=f:=by
 grind [uE]
theorem je{f:mj}(h:ca f=0):VT f:=by
 unfold ca at h;split at h
 ·rename_i hk;split at h
  ·simp at h
  ·obtain⟨h1,_,h3⟩:=wL h;have h4:=De h1;obtain⟨k,r,p,x⟩:=f;simp only[mj.mk.injEq]at h3;obtain⟨_,_,rfl,rfl⟩:=h3;refine⟨by omega,h4.2.2.1,h4.2.2.2.1,by simp,?_⟩;simp
 ·split at h
  ·rename_i hk;split at h
   ·simp at h
   ·obtain⟨h1,h2,h3⟩:=wL h;have h4:=De h1;obtain⟨k,r,p,x⟩:=f;simp only[mj.mk.injEq]at h3;obtain⟨_,rfl,_,rfl⟩:=h3;simp[qn]at h2;refine⟨by omega,by simp,by simp,h4.2.2.1,h2.1,h2.2.1,by grind,h2.2.2.2,?_⟩;simp
  ·split at h
   ·obtain⟨h1,h2,h3⟩:=wL h;obtain⟨k,r,p,x⟩:=f;simp only[mj.mk.injEq]at h3;obtain⟨_,rfl,rfl,_⟩:=h3;simp[qo]at h2;refine⟨by omega,by simp,by simp,by simp,by simp,by simp,by simp,by simp,h2.1,h2.2.1,h2.2.2.1,h2.2.2.2.1,h2.2.2.2.2.1,h2.2.2.2.2.2⟩
   ·simp at h
def iB(x:Int):UInt64:=fE x.toNat
theorem kU(x:Int)(h:0<=x):cN.wrap x=((iB x).toNat:Int):=by
 obtain⟨k,rfl⟩:∃k:Nat,x=k:=⟨x.toNat,by omega⟩;rw[pI,iB];simp
def wM(f:mj):Bs:=
 if f.kind=1 then eX [f.kG.eB,iB f.kG.key.length]++(f.kG.key++f.kG.val)
 else if f.kind=2 then eX [f.kG.eB]++f.kG.key
 else if f.kind=3 then eX [f.ptr.eB]++[cu f.ptr.kind.toNat]++eX [iB f.ptr.at_,iB f.ptr.len]++f.ptr.key
 else eX [iB f.fin.count,iB f.fin.print.bytes,iB f.fin.print.bz,iB f.fin.print.sum.toNat]
def eE(f:mj):Bs:=cu f.kind.toNat::wM f
theorem qt(h:VT f):(wM f).length<=3000:=by
 have h2:=λl=>jM l
 unfold wM
 obtain⟨_,h3,h4,h5,_⟩:=h
 grind
def H8(l:Bs)(e:Int)(v:Value)(B:List az):Prop:=
 (e=0/\∃a c,v=.tuple #[.slice a l.length c,.int .i64 0]/\B=[own 5 1 a l.length c (l.map fO)])\/(e≠0/\v=.tuple #[.slice none 0 0,.int .i64 e]/\B=[])
theorem H9(x:Int)(h:0<=x):cC.wrap x=((cu x.toNat).toNat:Int):=by
 grind [qm]
theorem oE:TR ab G 136 #[.agg f.cs.toArray] [] (cb (H8 (eE f) (ca f))):=by
 refine cg U λb β hb hG=>?_;refine xP ?_;intro b1;refine xJ (JY G f) ?_;refine xB ?_ ?_<;>intro h1
 ·have h1':ca f≠0:=by simpa using h1
  refine xS ?_;exact X.ret hb (.tmps U) ⟨_,.inr ⟨h1',U,U⟩,aN.nil _⟩
 ·have h0:ca f=0:=by simpa using h1
  have hg:=je h0;have hlen:=qt f hg;obtain⟨hk,g1,g2,g3,g4,g5,g6,g7,g8,g9,g10,g11,g12,g13⟩:=hg;have out:∀{N vs k Hs rs} (Z:Bs) (a:Option Addr) (c:Nat),Z=eE f->lk vs 2=some (.slice a Z.length c)->lk vs 3=some (.int .i64 0)->FO Hs a 5 1 Z.length c (Z.map fO) rs->X ab b β none (.it (.code .ret::k)) ⟨N,vs,[]⟩ Hs (cb (H8 (eE f) (ca f))):=by
   intro N vs k Hs rs Z a c hZ h2 h3 hf;subst hZ;exact X.ret hb (.tmp h2 (.tmp h3 .nil)) ⟨_,.inl ⟨h0,a,c,U,U⟩,hf.out.trans (fN [_] _)⟩
  refine xS ?_;refine eR 6 [0] ?_;refine xL [0,1,2,3,4,5] ?_;refine UZ U U U U U U U U U U U U U U U U U U U U U U U U U U U U λb5 b6 b7=>xS ?_;rw[H9 _ av];refine xZ ?_;intro b8;refine Cf b8 1 [cu f.kind.toNat] U U U ?_;refine xT 26 ?_ ?_<;>intro q1
  ·have k1:f.kind=1:=by simpa using q1
   refine xS ?_;rw[kU _ av];refine xZ ?_;intro b9;refine iu b9 (λx=>[rQ x]) [f.kG.eB,iB f.kG.key.length] U (λ_=>rfl) ?_;refine bw (mP G _ 2 2 [f.kG.eB,iB f.kG.key.length] U av) ?_;rintro _ _ ⟨a9,c9,rfl,rfl⟩;dsimp only[ae,ai,ah];have v9:=jM [f.kG.eB,iB f.kG.key.length];simp only[ax,aR]at v9;refine xS ?_;refine iE a9 U λh9=>?_;generalize hv9:eX [f.kG.eB,iB f.kG.key.length]=w9 at*;refine iw U U U U U bB λZ0 c30=>xS ?_;refine Cg U U U U bB λa31 c31=>xS ?_;exact out _ a31 c31 (by rw[eE,wM,if_pos k1,hv9];simp) U U inferInstance
  ·have k1:¬f.kind=1:=by simpa using q1
   refine xT 45 ?_ ?_<;>intro q2
   ·have k2:f.kind=2:=by simpa using q2
    refine xZ ?_;intro rR;refine iu rR (λx=>[rQ x]) [f.kG.eB] U (λ_=>rfl) ?_;refine bw (mP G _ 1 1 [f.kG.eB] U av) ?_;rintro _ _ ⟨VG,c10,rfl,rfl⟩;dsimp only[ae,ai,ah];have v10:=jM [f.kG.eB];simp only[ax,aR]at v10;refine xS ?_;refine iE VG U λMl=>?_;generalize hv10:eX [f.kG.eB]=w10 at*;refine iw U U U U U bB λZ0 c30=>xS ?_;refine Cg U U U U bB λa31 c31=>xS ?_;exact out _ a31 c31 (by rw[eE,wM,if_neg k1,if_pos k2,hv10];simp) U U inferInstance
   ·have k2:¬f.kind=2:=by simpa using q2
    refine xT 57 ?_ ?_<;>intro q3
    ·have k3:f.kind=3:=by simpa using q3
     have hpk:0<=f.ptr.kind:=by
      unfold ca at h0;rw[if_neg av,if_pos k3]at h0;split at h0
      ·simp at h0
      ·omega
     refine xZ ?_;intro wu;refine iu wu (λx=>[rQ x]) [f.ptr.eB] U (λ_=>rfl) ?_;refine bw (mP G _ 1 1 [f.ptr.eB] U av) ?_;rintro _ _ ⟨FH,Z1,rfl,rfl⟩;dsimp only[ae,ai,ah];have v11:=jM [f.ptr.eB];simp only[ax,aR]at v11;refine xS ?_;refine iE FH U λh11=>?_;generalize hv11:eX [f.ptr.eB]=w11 at*;refine iw U U U U U bB λZ0 c30=>xS ?_;rw[H9 _ hpk];refine xZ ?_;intro b40;refine iu b40 (λx=>[fO x]) [cu f.ptr.kind.toNat] U (λ_=>rfl) ?_;refine iw U U U U U bB λa32 c32=>xS ?_;rw[kU _ av];rw[kU _ av];refine xZ ?_;intro Bl;refine iu Bl (λx=>[rQ x]) [iB f.ptr.at_,iB f.ptr.len] U (λ_=>rfl) ?_;refine bw (mP G _ 2 2 [iB f.ptr.at_,iB f.ptr.len] U av) ?_;rintro _ _ ⟨a12,c12,rfl,rfl⟩;dsimp only[ae,ai,ah];have v12:=jM [iB f.ptr.at_,iB f.ptr.len];simp only[ax,aR]at v12;refine xS ?_;refine iE a12 U λh12=>?_;generalize hv12:eX [iB f.ptr.at_,iB f.ptr.len]=w12 at*;refine iw U U U U U bB λa33 c33=>xS ?_;refine Cg U U U U bB λa34 c34=>xS ?_;exact out _ a34 c34 (by rw[eE,wM,if_neg k1,if_neg k2,if_pos k3,hv11,hv12];simp) U U inferInstance
    ·have k3:¬f.kind=3:=by simpa using q3
     refine xT 85 ?_ ?_<;>intro q4
     ·refine xS ?_;rw[kU _ av];rw[kU _ av];rw[kU _ av];rw[kU _ av];refine xZ ?_;intro FE;refine iu FE (λx=>[rQ x]) [iB f.fin.count,iB f.fin.print.bytes,iB f.fin.print.bz,iB f.fin.print.sum.toNat] U (λ_=>rfl) ?_;refine bw (mP G _ 4 4 [iB f.fin.count,iB f.fin.print.bytes,iB f.fin.print.bz,iB f.fin.print.sum.toNat] U av) ?_;rintro _ _ ⟨Ni,c13,rfl,rfl⟩;dsimp only[ae,ai,ah];have v13:=jM [iB f.fin.count,iB f.fin.print.bytes,iB f.fin.print.bz,iB f.fin.print.sum.toNat];simp only[ax,aR]at v13;refine xS ?_;refine iE Ni U λh13=>?_;generalize hv13:eX [iB f.fin.count,iB f.fin.print.bytes,iB f.fin.print.bz,iB f.fin.print.sum.toNat]=w13 at*;refine iw U U U U U bB λZ0 c30=>xS ?_;exact out _ Z0 c30 (by rw[eE,wM,if_neg k1,if_neg k2,if_neg k3,hv13];simp) U U inferInstance
     ·simp at q4;omega
instance(x y:Int):FJ ab 319 [.int .u64 x,.int .u64 y] [] (.int .i64 (mY x y)):=⟨λG=>Ro G x y⟩
instance(x y:Int):FJ ab 332 [.int .u32 x,.int .u32 y] [] (.int .i64 (mY x y)):=⟨λG=>Gr G x y⟩
instance(x y:Int):FJ ab 404 [.int .i64 x,.int .i64 y] [] (.int .i64 (mY x y)):=⟨λG=>z8 G x y⟩
instance(x y:Bs):FJ ab 320 [ao x,ao y] [] (.int .i64 (JT x y)):=⟨λG=>Rq G x y⟩
theorem sy{l:Bs}{v:Value}{B:List az}(h:H8 l e v B):∃a n c,v=.tuple #[.slice a n c,.int .i64 e]/\(e=0->n=l.length)/\aN B [cnd (e=0) (own 5 1 a l.length c (l.map fO))]:=by
 rcases h with⟨h0,a,c,rfl,rfl⟩|⟨h0,rfl,rfl⟩
 ·exact⟨a,_,c,by rw[h0],λ_=>rfl,UF _ _ _⟩
 grind [UM]
def Cn(esc:Bs):Bs:=z' (iB esc.length) 3
def yE(esc:Bs):Bs:=[167]++Cn esc++esc++z' (iB (mC [Cn esc,esc]).toNat) 5
def mS(f:mj):Bs:=yE (pM (eE f))
theorem Aa:TR ab G 203 #[.agg f.cs.toArray] [] (cb (H8 (mS f) (ca f))):=by
 refine cg U λb β hb hG=>?_;refine xP ?_;intro b1;refine bw (oE G f) ?_;rintro v B (⟨h0,a4,c4,rfl,rfl⟩|⟨h0,rfl,rfl⟩)
 ·refine xD ?_;have hg:=qt f (je h0);have Fh:(eE f).length<=3001:=by grind [eE]
  unfold mS;generalize eE f=body at*;refine xS ?_;refine iE a4 U λhc4=>?_;refine bw (ae7 G a4 body.length c4 body U av) ?_;rintro v B ⟨a6,c6,rfl,rfl⟩;dsimp only[ae,ai,ah];have Gk:=uH body;generalize pM body=es at*;refine xS ?_;rw[kU _ av];refine bw (Gw G (iB es.length) 3 de) ?_;intro v B hq;have hes:(iB (es.length:Int)).toNat=es.length:=by
   grind [iB,UInt64.toNat_ofNat']
  rw[if_pos av]at hq;obtain⟨a7,rfl,rfl⟩:=hq;dsimp only[ae,ai,ah];have hdl:=yA (iB es.length) 3;unfold yE;rw[show Cn es=z' (iB es.length) 3 from rfl];generalize z' (iB es.length) 3=len at*;refine xZ ?_;intro b8;refine iE a7 hdl.symm λh7=>?_;refine iE a6 U λh6=>?_;refine aT2 b8 (x:=len) (x':=es) hdl (ar _) U h6 ?_;refine xJ (Dc G _ 2 2 [len,es] U av bB) ?_;have wm:=(mC [len,es]).toNat_lt;generalize mC [len,es]=cr at*;dsimp only[Rj];refine xS ?_;rw[kU _ av];refine bw (Gw G (iB cr.toNat) 5 de) ?_;intro v B hq;have hes5:(iB (cr.toNat:Int)).toNat=cr.toNat:=by
   grind [iB,UInt64.toNat_ofNat']
  rw[if_pos av]at hq;obtain⟨a9,rfl,rfl⟩:=hq;dsimp only[ae,ai,ah];have h5l:=yA (iB cr.toNat) 5;generalize z' (iB cr.toNat) 5=sum at*;refine xZ ?_;intro rR;refine Cf rR 1 [167] U U U ?_;refine iw U U U U hdl bB λFH Z1=>xS ?_;refine iw U U U U U bB λa12 c12=>xS ?_;refine iE a9 h5l.symm λh9=>?_;refine iw U U U U h5l bB λNi c13=>xS ?_;exact X.ret hb (.tmps U) ⟨_,.inl ⟨h0,Ni,c13,U,U⟩,fN [_] _⟩
 ·refine xD ?_;refine xB ?_ ?_<;>intro h1
  ·refine xS ?_;exact X.ret hb (.tmps U) ⟨_,.inr ⟨h0,U,U⟩,aN.nil _⟩
  ·exact absurd bE h0
instance(x:Int):FJ ab 473 [.int .i64 x] [] (.int .i64 (if x=0 then 1 else 0)):=⟨λG=>by
 refine cg U λb β hb hG=>?_;refine xB ?_ ?_<;>intro h
 ·refine xS ?_;exact bO hb (.tmps U) ⟨by rw[if_pos bE];rfl,U⟩
 ·refine xS ?_;exact bO hb (.tmps U) ⟨by rw[if_neg bE];rfl,U⟩⟩
instance:CX ab 497 Extern.BytealgCompare.compare:=⟨λargs w=>run_callFunc_extern (fn:=Tryz.f497) U U U U U args w⟩
theorem VU{P:Program}{β:bS}{Hs:List az}{w:World}{a a2:Option Addr}{n c n2 c2:Nat}{xs ys:List UInt8}(hs:Sat β Hs w)[hf:zI Hs a RB 1 xs][JN:zI Hs a2 RB 1 ys](hn:xs.length=n)(tH:ys.length=n2):
 (Extern.BytealgCompare.compare #[.slice a n c,.slice a2 n2 c2]).run P w=.ok (.int .i64 (cI xs ys)) w:=by
 have h1:=sK (P:=P) (a:=a) (c:=c) hs hn
 have h2:=sK (P:=P) (a:=a2) (c:=c2) hs tH
 have h3:=Lib.run_compareString (P:=P) ⟨xs.toArray⟩ ⟨ys.toArray⟩ w
 change fo P (do pure (goInt (Extern.BytealgCompare.cmp (<-Extern.Bytes.bytesOf (.slice a n c)) (<-Extern.Bytes.bytesOf (.slice a2 n2 c2))))) w=_
 change fo P (do pure (goInt (Extern.BytealgCompare.cmp (<-Extern.Bytes.bytesOf (.string ⟨xs.toArray⟩)) (<-Extern.Bytes.bytesOf (.string ⟨ys.toArray⟩))))) w=_ at h3
 rw[aU,h1,aC,aU,h2,aC]
 exact h3
theorem J7(a2:Option Addr)(n c n2 c2:Nat)(xs ys:Bs)(hn:xs.length=n)(tH:ys.length=n2):
 TR ab G 474 #[.slice a n c,.slice a2 n2 c2] [bV RB 1 a xs,bV RB 1 a2 ys] (cT (.int .i64 (cI xs ys))):=by
 refine aW U λb β hb hG=>xS ?_
 refine CW U U U (λw hs=>VU hs hn tH)  ?_
 exact xR
def pX(x y:Rec):Int:=
 if ca (fj x)≠0\/ca (fj y)≠0 then mY (if ca (fj x)=0 then 1 else 0) (if ca (fj y)=0 then 1 else 0)
 else Ub [mY x.eB.toNat y.eB.toNat,cI (eE (fj x)) (eE (fj y))]
instance aW9(x y:Rec):FJ ab 418 [.agg x.cs.toArray,.agg y.cs.toArray] [] (.int .i64 (pX x y)):=⟨λG=>by
 refine aW U λb β hb hG=>?_;refine xP ?_;intro b2;refine xP ?_;intro b3;refine bw (oE G (fj x)) ?_;intro v B hq;obtain⟨a1,n1,c1,rfl,C9,PR⟩:=sy hq;refine X.cd (iQ PR _) (xD ?_);refine bw (oE G (fj y)) ?_;intro v B hq;obtain⟨a2,n2,c2,rfl,tH,hB2⟩:=sy hq;refine X.cd (iQ hB2 _) ?_;dsimp only[ae,ai,ah];have e0:pX x y=if ca (fj x)≠0\/ca (fj y)≠0 then mY (if ca (fj x)=0 then 1 else 0) (if ca (fj y)=0 then 1 else 0)else Ub [mY x.eB.toNat y.eB.toNat,cI (eE (fj x)) (eE (fj y))]:=U;have g1:ca (fj x)=0->(eE (fj x)).length<=3001:=bm4;have g2:ca (fj y)=0->(eE (fj y)).length<=3001:=bm4;generalize eE (fj x)=bx1 at*;generalize eE (fj y)=bx2 at*;generalize ca (fj x)=e1 at*;generalize ca (fj y)=e2 at*;refine xT 23 ?_ ?_<;>intro h1
 ·refine xS ?_;exact bO hb (.tmps U) ⟨by rw[e0.trans (if_pos (.inl bE))];rfl,U⟩
 ·refine xB ?_ ?_<;>intro h2
  ·refine xS ?_;exact bO hb (.tmps U) ⟨by rw[e0.trans (if_pos (.inr bE))];rfl,U⟩
  ·have z1:e1=0:=by grind
   have z2:e2=0:=bE;rw[if_neg (by simp[z1,z2])]at e0;refine Ux z1 ?_;refine Ux z2 ?_;have g1:=g1 z1;have g2:=g2 z2;have C9:=C9 z1;have tH:=tH z2;subst C9 tH;refine iE a1 U λ_=>?_;refine iE a2 U λ_=>?_;refine xJ (J7 G a1 a2 _ c1 _ c2 bx1 bx2 U U) ?_;refine xZ ?_;intro b5;refine iu b5 (λx=>[aX x]) [mY x.eB.toNat y.eB.toNat,cI bx1 bx2] U (λ_=>rfl) ?_;refine xJ (Vs G _ _ _ [mY x.eB.toNat y.eB.toNat,cI bx1 bx2] U nH) ?_;exact bO hb (.tmps U) ⟨by rw[e0];rfl,U⟩⟩
end
section
variable(b:Bs)(G:bZ)(p:Nat)(a:Option Addr)(n c:Nat)(xs:Bs)(at_:Nat)
theorem wv(m:Nat)(h:(bL b m).2.2=0):9<=(bL b m).2.1/\(m:Int)+(bL b m).2.1<=b.length:=by
 have hl:=Bp ((b.drop m).drop 1);unfold bL at h ⊢;split at h
 ·simp at h
 ·rename_i h1
  rw[if_neg h1]
  simp only[fG]at h ⊢
  grind [rS]
def jQ(b:Bs)(at_:Nat):Int:=cE (b.drop at_) 167
def Bq(b:Bs)(a:Nat):Nat:=if 0<=jQ b (a+1)then a+1+(jQ b (a+1)).toNat else b.length
def VV:Nat->Bs->Nat->mj×Int×Int
 |0,_,_=>(.zero,-1,0)
 |f+1,b,at_=>
  if b.length<=at_ then(.zero,-1,0)
  else if jQ b at_<0 then(.zero,-1,0)
  else if(bL (b.take (Bq b (at_+(jQ b at_).toNat))) (at_+(jQ b at_).toNat:Nat)).2.2=0 then
   ((bL (b.take (Bq b (at_+(jQ b at_).toNat))) (at_+(jQ b at_).toNat:Nat)).1,(at_+(jQ b at_).toNat:Nat),(bL (b.take (Bq b (at_+(jQ b at_).toNat))) (at_+(jQ b at_).toNat:Nat)).2.1)
  else VV f b (at_+(jQ b at_).toNat+1)
def eJ(b:Bs)(at_:Nat):mj×Int×Int:=VV (b.length+1) b at_
theorem Ab:jQ b at_<0\/at_+(jQ b at_).toNat<b.length:=by
 unfold jQ;have h1:=Lib.indexByte_ge (b.drop at_) 167;rcases yC (b.drop at_) 167 with h|h;all_goals grind
theorem VW(a:Nat)(h:a<b.length):a<Bq b a/\Bq b a<=b.length:=by
 unfold Bq;split
 ·rcases Ab b (a+1)with h1|h1<;>omega
 ·omega
theorem VX:∀(f:Nat) (b:Bs) (at_:Nat),(VV f b at_).2.1= -1\/((at_:Int)<=(VV f b at_).2.1/\9<=(VV f b at_).2.2/\(VV f b at_).2.1+(VV f b at_).2.2<=b.length)
 |0,_,_=>.inl U
 |f+1,b,at_=>by
  unfold VV
  split
  ·grind
  ·split
   ·grind
   ·rename_i h1 h2;split
    ·rename_i h3
     have h4:=wv _ _ h3
     grind
    ·rcases VX f b (at_+(jQ b at_).toNat+1)with h4|h4
     ·exact .inl h4
     ·right;omega
theorem ae9(hn:xs.length=n)(oM:n<=c)(hs:n<=1099511627776)(Jd:at_<=1099511627776):
 TR ab G 422 #[.slice a n c,.int .i64 at_] [bV RB 1 a xs] (cT (.tuple #[.int .i64 (eJ xs at_).2.1,.agg (eJ xs at_).1.cs.toArray,.int .i64 (eJ xs at_).2.2])):=by
 refine aW U λb β hb hG=>?_
 have out:∀{N vs k Hs rs} (b5:Nat) (f:mj) (x e:Int),eJ xs at_=(f,x,e)->lk vs 5=some (au b5)->lk vs 4=some (.int .i64 x)->lk vs 6=some (.int .i64 e)->FB Hs b5 220 f.cs rs->X ab b β none (.it (.code .ret::k)) ⟨N,vs,[]⟩ Hs (cT (.tuple #[.int .i64 (eJ xs at_).2.1,.agg (eJ xs at_).1.cs.toArray,.int .i64 (eJ xs at_).2.2])):=by
  intro N vs k Hs rs b5 f x e he h1 h2 h3 hf;exact bO hb (.tmp h2 (.gX h1 U (.tmp h3 .nil))) ⟨by rw[he];rfl,U⟩
 refine xA ?_
 intro b5
 refine X.cd (Hs':=[bx b5 220 mj.zero.cs,bV RB 1 a xs]) (jk U) ?_
 refine aa9 [5] [] (ι:={_u:Unit // eJ xs at_=(.zero,-1,0)}) (λ_ q_=>q_) (λ_ q_=>q_) (λu=>?_) (λK fin=>?_)
 ·obtain⟨_,hu⟩:=u;refine xS ?_;exact out b5 .zero (-1) 0 hu U U U inferInstance
 ·refine eT [0,5] [] (ι:={p:Nat // p<=at_+n/\∃f,n<p+f/\eJ xs at_=VV f xs p}) (λp q_=>(7,.int .i64 p.1)::q_) (λp q_=>q_) (λp=>at_+n - p.1) ⟨at_,by omega,n+1,by omega,by rw[eJ,hn]⟩ ?_;rintro⟨p,hp,f,hf,hE⟩ ih;dsimp only at hp hf hE ih ⊢;refine xB ?_ ?_<;>intro h1
  ·have hpn:p<n:=by simp at h1;omega
   obtain⟨f,rfl⟩:∃q,f=q+1:=by
    cases f with
    |zero=>omega
    |succ q=>exact⟨q,U⟩
   rw[VV,if_neg av]at hE;refine xS ?_;refine nI (l:=p) (h:=n) U U U hn (Bd.at U U) Bd.no av (ar _) oM λa1 c1 Db=>?_;rw[Dd xs p n hn];refine xJ (sM G a1 (n - p) c1 (xs.drop p) 167 Rb) ?_;rw[show cE (xs.drop p) 167=jQ xs p from rfl];have hq:=Ab xs p;generalize jQ xs p=q at*;dsimp only[aX];refine xB ?_ ?_<;>intro h2
   ·rw[if_pos FG]at hE;refine xS ?_;exact X.W (fin ⟨(),hE⟩)
   ·rw[if_neg FG]at hE;obtain⟨q,rfl⟩:∃k:Nat,q=k:=⟨q.toNat,by simp at h2;omega⟩;simp only[fG]at hE;have hm:p+q<n:=av;obtain⟨m,Mn⟩:∃m,m=p+q:=⟨_,U⟩;rw[<-Mn]at hE hm;refine xS ?_;rw[show(p:Int)+(q:Int)=(m:Int)from by omega];refine nI (l:=m+1) (h:=n) U U U hn (Bd.at U nH) Bd.no av (ar _) oM λa2 c2 Nk=>?_;rw[Dd xs (m+1) n hn];refine xJ (sM G a2 (n - (m+1)) c2 (xs.drop (m+1)) 167 Rb) ?_;rw[show cE (xs.drop (m+1)) 167=jQ xs (m+1)from rfl];have hse:=VW xs m av;have Np:Bq xs m=if 0<=jQ xs (m+1)then m+1+(jQ xs (m+1)).toNat else xs.length:=U;have U':=Ab xs (m+1);generalize jQ xs (m+1)=q2 at*;generalize Bq xs m=e at*;dsimp only[aX];refine xS ?_;refine jI (ι:=Unit) (λ_=>([(0,.slice a n c),(5,au b5),(7,.int .i64 m),(9,.int .i64 e)],[bx b5 220 mj.zero.cs,bV RB 1 a xs])) (λ_=>?_) (λK2 J0=>?_)
    ·dsimp only;refine xS ?_;refine nI (l:=0) (h:=e) U U U hn Bd.no (Bd.at U U) av av oM λa3 c3 hc3=>?_;simp only[Nat.sub_zero,fm];have Gk:(xs.take e).length=e:=bB;refine xJ (pW G a3 e c3 (xs.take e) m Gk av av) ?_;generalize bL (xs.take e) m=r at*;obtain⟨fr,sz,er⟩:=r;dsimp only[RA]at hE ⊢;refine xA ?_;intro wu;refine xB ?_ ?_<;>intro h3
     ·rw[if_pos OR]at hE;refine xS ?_;refine fM (uC [0,1,2]) [bx wu 220 fr.cs] U ?_;refine xL [0,1,2] ?_;refine xS ?_;exact out b5 fr m sz hE U U U inferInstance
     ·rw[if_neg OR]at hE;refine xS ?_;exact X.less (ih ⟨m+1,by omega,f,by omega,hE⟩ gm) (s3_ U U (eN U nH)) ay
    ·refine xB ?_ ?_<;>intro h3
     ·have M6:0<=q2:=by simpa using h3
      rw[if_pos M6]at Np;exact bs2
     ·rw[if_neg OR]at Np;exact bs2
  ·have hpn:n<=p:=by simp at h1;omega
   have h0:eJ xs at_=(.zero,-1,0):=by
    rw[hE];cases f with
    |zero=>rfl
    |succ f=>rw[VV,if_pos av]
   refine xS ?_;exact X.W (fin ⟨(),h0⟩)
structure rI where
 f:mj
 at_:Int
 size:Int
deriving DecidableEq
@[reducible] def rI.cs(x:rI):List Value:=[.int .i64 x.f.kind,.int .u64 x.f.kG.eB.toNat,.int .i64 x.f.kG.kind,ao x.f.kG.key,ao x.f.kG.val,
 .int .u64 x.f.ptr.eB.toNat,.int .i64 x.f.ptr.kind,.int .i64 x.f.ptr.at_,.int .i64 x.f.ptr.len,ao x.f.ptr.key,
 .int .i64 x.f.fin.count,.int .i64 x.f.fin.print.bytes,.int .i64 x.f.fin.print.bz,.int .u32 x.f.fin.print.sum.toNat,.int .i64 x.at_,.int .i64 x.size]
def kW:Nat->Bs->Nat->List rI
 |0,_,_=>[]
 |f+1,b,at_=>if(eJ b at_).2.1<0 then[]else⟨(eJ b at_).1,(eJ b at_).2.1,(eJ b at_).2.2⟩::kW f b ((eJ b at_).2.1+(eJ b at_).2.2).toNat
def lq(b:Bs):List rI:=kW (b.length+1) b 0
theorem pY:(eJ b at_).2.1= -1\/((at_:Int)<=(eJ b at_).2.1/\9<=(eJ b at_).2.2/\(eJ b at_).2.1+(eJ b at_).2.2<=b.length):=VX _ _ _
theorem Nq:TR ab G 341 #[.slice a n c] [] (cb λv B=>∃p,v=.func (.func 421) #[] #[au p]/\B=[bx p 55 [.slice a n c]]):=Ka
theorem Nr(hn:xs.length=n)(oM:n<=c)(hs:n<=1000000000000):
 IT ab G 421 [au p] [bx p 55 [.slice a n c],bV RB 1 a xs] (λx:rI=>[.agg x.cs.toArray]) (lq xs):=by
 intro l I J hY
 refine aW U λb β hb hG=>xD ?_
 refine X.loop (ι:={q:Nat×List rI // q.1<=n/\∃f,n<q.1+f/\lq xs=q.2++kW f xs q.1}) (λq=>([(0,.func (.yield l) #[] #[]),(1,au p),(3,.int .i64 q.1.1)],[bx p 55 [.slice a n c],bV RB 1 a xs]++I q.1.2)) (λq=>n - q.1.1) ⟨(0,[]),al _,n+1,by omega,by grind [lq]⟩ (Sub.of U) (aN.refl _) ?_
 rintro⟨⟨i,pre⟩,hi,f,hf,hE⟩ ih
 dsimp only at hi hf hE ih ⊢
 dsimp only[ae,ai,ah]
 obtain⟨f,rfl⟩:∃q,f=q+1:=by
  cases f<;>grind
 rw[kW]at hE
 refine xJ (ae9 G a n c xs i hn oM av av) ?_
 have hr:=pY xs i
 generalize eJ xs i=r at*
 obtain⟨fr,x,sz⟩:=r
 dsimp only at hr hE ⊢
 refine xA ?_
 intro b5
 refine xT 16 ?_ ?_<;>intro h1
 ·rw[if_pos bE,ah]at hE;refine xS ?_;refine X.ret hb (.tmps U) ⟨_,.inl U,?_⟩;rw[hE];exact aN.drop _ _
 ·have h0:¬x<0:=by grind
  rw[if_neg h0]at hE;have hx:(i:Int)<=x/\9<=sz/\x+sz<=xs.length:=av;refine xS ?_;refine Pm hG (hY pre ⟨fr,x,sz⟩ _ hE) U U U U (ur [_,_,_] (I pre)) ?_;rintro v B (⟨rfl,rfl⟩|⟨rfl,rfl⟩)
  ·refine X.cd (ur _ _) (xD ?_);rw[if_neg (show ¬sz<1 by omega)];refine xS ?_;refine X.less (ih ⟨((x+sz).toNat,pre++[⟨fr,x,sz⟩]),by omega,f,by omega,by rw[hE];simp⟩ bE) (s3_ U U (eN U bB)) (aN.drop _ _)
  ·refine X.cd (ur _ _) (xD ?_);refine X.ret hb (.tmps U) ⟨_,.inr U,aN.drop _ _⟩
theorem yF{α:Type}(p:α->Bool):∀(l:List α) (i:Nat),decide (0<=cy p i l)=l.any p
 |[],i=>by simp[cy]
 |x::r,i=>by
  unfold cy;cases h:p x
  ·simp[h,yF p r (i+1)]
  ·simp[h]
theorem nt{α:Type}[BEq α][LawfulBEq α](v:α)(l:List α):decide (cy (λy=>v==y) 0 l≥0)=l.contains v:=by
 grind [yF]
@[reducible] def RK:Rp Int:=bp λx=>[.int .i64 x]
theorem af0(xs:List Int)(v:Int)(hn:xs.length=n)(hs:n<=1099511627776):
 TR ab G 423 #[.slice a n c,.int .i64 v] [bV RK 1 a xs] (cT (aX (cy (λy=>v==y) 0 xs))):=by
 refine aW U λb β hb hG=>xS ?_
 refine eT [0,1] [] (ι:={i:Nat // i<=n/\cy (λy=>v==y) 0 xs=cy (λy=>v==y) i (xs.drop i)}) (λi q_=>(7,aX n)::(8,aX i.1)::q_) (λi q_=>q_) (λi=>n - i.1) ⟨0,al _,U⟩ ?_
 rintro⟨i,hi,hE⟩ ih
 dsimp only
 refine xB ?_ ?_<;>intro h
 ·exact bt6
 ·exact aW5
theorem VZ(xs:List Int)(v:Int)(hn:xs.length=n)(hs:n<=1099511627776):
 TR ab G 342 #[.slice a n c,.int .i64 v] [bV RK 1 a xs] (cT (.bool (xs.contains v))):=by
 refine aW U λb β hb hG=>?_
 refine xJ (af0 G a n c xs v hn hs) ?_
 exact bO hb (.tmps U) ⟨by simp only[lx,aX];rw[nt],U⟩
@[reducible] def RU:Rp UInt32:=bp λx=>[.int .u32 x.toNat]
theorem af1(xs:List UInt32)(v:UInt32)(hn:xs.length=n)(hs:n<=1099511627776):
 TR ab G 265 #[.slice a n c,.int .u32 v.toNat] [bV RU 1 a xs] (cT (aX (cy (λy=>v==y) 0 xs))):=by
 refine aW U λb β hb hG=>xS ?_
 refine eT [0,1] [] (ι:={i:Nat // i<=n/\cy (λy=>v==y) 0 xs=cy (λy=>v==y) i (xs.drop i)}) (λi q_=>(7,aX n)::(8,aX i.1)::q_) (λi q_=>q_) (λi=>n - i.1) ⟨0,al _,U⟩ ?_
 rintro⟨i,hi,hE⟩ ih
 dsimp only
 refine xB ?_ ?_<;>intro h
 ·have hi:i<xs.length:=by grind
  refine xS ?_;refine cH U U U U U hi hn λbl o=>xS ?_;rw[jt _ xs i hi]at hE;refine xB ?_ ?_<;>intro h2
  ·rw[if_pos (by grind [dM])]at hE;exact bj9
  ·exact bD9
 ·exact aW5
theorem V0(xs:List UInt32)(v:UInt32)(hn:xs.length=n)(hs:n<=1099511627776):
 TR ab G 170 #[.slice a n c,.int .u32 v.toNat] [bV RU 1 a xs] (cT (.bool (xs.contains v))):=by
 refine aW U λb β hb hG=>?_
 refine xJ (af1 G a n c xs v hn hs) ?_
 exact bO hb (.tmps U) ⟨by simp only[lx,aX];rw[nt],U⟩
@[reducible] def RS:Rp Bs:=bp λx=>[ao x]
theorem af2(xs:List Bs)(v:Bs)(hn:xs.length=n)(hs:n<=1099511627776):
 TR ab G 140 #[.slice a n c,ao v] [bV RS 1 a xs] (cT (aX (cy (λy=>v==y) 0 xs))):=by
 refine aW U λb β hb hG=>xS ?_
 refine eT [0,1] [] (ι:={i:Nat // i<=n/\cy (λy=>v==y) 0 xs=cy (λy=>v==y) i (xs.drop i)}) (λi q_=>(7,aX n)::(8,aX i.1)::q_) (λi q_=>q_) (λi=>n - i.1) ⟨0,al _,U⟩ ?_
 rintro⟨i,hi,hE⟩ ih
 dsimp only
 refine xB ?_ ?_<;>intro h
 ·exact bt6
 ·exact aW5
theorem Df(xs:List Bs)(v:Bs)(hn:xs.length=n)(hs:n<=1099511627776):
 TR ab G 77 #[.slice a n c,ao v] [bV RS 1 a xs] (cT (.bool (xs.contains v))):=by
 refine aW U λb β hb hG=>?_
 refine xJ (af2 G a n c xs v hn hs) ?_
 exact bO hb (.tmps U) ⟨by simp only[lx,aX];rw[nt],U⟩
@[reducible] def rI.atf(x:rI):List Value:=[.int .i64 x.at_,.agg x.f.cs.toArray]
theorem RC:TR ab G 377 #[.slice a n c] [] (cb λv B=>∃p,v=.func (.func 450) #[] #[au p]/\B=[bx p 55 [.slice a n c]]):=Ka
theorem RE(hn:xs.length=n)(oM:n<=c)(hs:n<=1000000000000):
 IT ab G 450 [au p] [bx p 55 [.slice a n c],bV RB 1 a xs] (λx:rI=>x.atf) (lq xs):=by
 refine IT.mk λl I J hY=>?_
 refine aW U λb β hb hG=>xD ?_
 refine xP ?_
 intro y
 refine bw (Nq G a n c) ?_
 rintro v B ⟨q,rfl,rfl⟩
 refine xD ?_
 refine Jw hG hb (Nr G q a n c xs hn oM hs) U (λpre=>[bx y 561 [.func (.yield l) #[] #[]],I pre]) [bx y 561 [.func (.yield l) #[] #[]],J] (F:=[bx p 55 [.slice a n c]]) ?_ (λ_=>rfl) de ?_ ?_ ?_
 ·dsimp only[ae,ai,ah];exact ay
 ·intro b' β' l' r pre x post hx lC yy hr;refine xA ?_;intro z;refine qg lC hr (xS ?_);refine rM yy (hY pre x post hx) U U U U ?_ ?_
  ·refine xD ?_;exact ll lC
  ·refine xD ?_;exact ab4 lC
 ·intro D;refine xD ?_;exact aS1 hb (F:=[bx q 55 [.slice a n c],bV RB 1 a xs,bx y 561 [.func (.yield l) #[] #[]],I (lq xs),bx p 55 [.slice a n c]]) (aN.refl _) (.tmps U) ⟨_,.inl U,ay⟩
 ·intro D;dsimp only[ae,ai,ah];exact XR.mark hb (F:=[bx q 55 [.slice a n c],bV RB 1 a xs,bx y 561 [.func (.yield l) #[] #[]],J,bx p 55 [.slice a n c]]) (aN.refl _) (.tmps U) ⟨_,.inr U,ay⟩
theorem Dg:∀(f:Nat) (b:Bs) (at_:Nat),(kW f b at_).length<=b.length - at_
 |0,_,_=>al _
 |f+1,b,at_=>by
  unfold kW;have h:=pY b at_;split
  ·exact al _
  ·have h2:=Dg f b ((eJ b at_).2.1+(eJ b at_).2.2).toNat;rw[ax];omega
theorem lS:(lq b).length<=b.length:=aj (Dg _ b 0) (Nat.sub_le _ _)
def iC(b:Bs):ZX:=⟨b.length,(lq b).length,mC [b]⟩
theorem Dh(hn:xs.length=n)(oM:n<=c)(hs:n<=1000000000000):
 TR ab G 281 #[.slice a n c] [bV RB 1 a xs] (cT (.agg (iC xs).cs.toArray)):=by
 refine cg U λb β hb hG=>?_
 have hlen:=lS xs
 refine xA ?_
 intro b2
 refine xZ ?_
 intro b6
 refine HP b6 hn oM ?_
 refine xJ (Dc G _ 1 1 [xs] U av bB) ?_
 generalize Z3:mC [xs]=cr at*
 dsimp only[Rj]
 refine xA ?_
 intro b3
 refine bw (RC G a n c) ?_
 rintro v B ⟨q,rfl,rfl⟩
 refine xD ?_
 refine qh hG hb (RE G q a n c xs hn oM hs) U (λpre=>[bx b3 216 [.int .i64 n,.int .i64 pre.length,.int .u32 cr.toNat]]) [bx b3 216 [.int .i64 n,.int .i64 0,.int .u32 cr.toNat]] U (λ_=>rfl) de ?_ ?_
 ·intro b' β' l' r pre x post hx lC yy hr;have tJ:pre.length<n:=bE;refine xS ?_;refine qg lC hr (xS ?_);rw[show(pre.length:Int)+1=((pre++[x]).length:Nat)from by simp];exact ll lC
 ·intro D;refine xD ?_;refine yg hb (l:=[.agg #[.int .i64 n,.int .i64 (lq xs).length,.int .u32 cr.toNat]]) (.gX U iA .nil) ⟨_,⟨?_,U⟩,aN.nil _⟩;rw[iC,Z3,hn];rfl
theorem Di:∀(f:Nat) (b:Bs) (at_:Nat),∀x∈kW f b at_,(at_:Int)<=x.at_/\9<=x.size/\x.at_+x.size<=b.length
 |0,_,_,x,hx=>by cases hx
 |f+1,b,at_,x,hx=>by
  unfold kW at hx;have h:=pY b at_;split at hx
  ·cases hx
  ·rename_i h0
   rcases bK.1 hx with rfl|hx
   ·grind
   ·have:=Di f b _ x hx;omega
theorem RF:∀x∈lq b,0<=x.at_/\9<=x.size/\x.at_+x.size<=b.length:=λx hx=>Di _ b 0 x hx
@[reducible] def qu(ks:List Int):List Int:=if ks=[]then[1,2]else ks
def fV(b:Bs)(ks:List Int):List rI:=(lq b).filter λx=>(qu ks).contains x.f.kind
theorem wN(a2:Option Addr)(n2 c2:Nat)(ks:List Int)(hn:xs.length=n)(oM:n<=c)(hs:n<=1000000000)(tH:ks.length=n2)(ug:n2<=1000):
 TR ab G 233 #[.slice a n c,.slice a2 n2 c2] [bV RB 1 a xs,bV RK 1 a2 ks] (cb (Rl rI.cs 365 16 (fV xs ks))):=by
 refine aW U λb β hb hG=>?_
 have hlen:=lS xs
 refine xP ?_
 intro b3
 refine tU [0,3] [0,1] (ι:={p:Option Addr×Nat×Nat // (qu ks).length=p.2.1/\p.2.1<=1000}) (λp q_=>q_) (λp q_=>bx b3 464 [.slice p.1.1 p.1.2.1 p.1.2.2]::bV RK 1 p.1.1 (qu ks)::q_) (λp=>?_) (λK fin=>?_)
 ·obtain⟨⟨a3,n3,c3⟩,h3,h4⟩:=p;dsimp only at h3 h4 ⊢;have Np:fV xs ks=(lq xs).filter λx=>(qu ks).contains x.f.kind:=U;generalize qu ks=kk at*;refine xS ?_;refine jC U U λb5=>?_;refine A7 rI.cs 365 16 b5 U (xS ?_);refine bw (Nq G a n c) ?_;rintro v B ⟨q,rfl,rfl⟩;refine xD ?_;refine qh hG hb (Nr G q a n c xs hn oM av) U (λpre=>[bx b3 464 [.slice a3 n3 c3],bV RK 1 a3 kk,lE rI.cs 365 16 362 b5 (pre.filter λx=>kk.contains x.f.kind)]) [bx b3 464 [.slice a3 n3 c3],bV RK 1 a3 kk,lE rI.cs 365 16 362 b5 []] U (λ_=>rfl) de ?_ ?_
  ·intro b' β' l' r pre x post hx lC yy hr;have tJ:(pre.filter λx=>kk.contains x.f.kind).length<=n:=by
    grind
   have hfx:(pre++[x]).filter (λx=>kk.contains x.f.kind)=(pre.filter λx=>kk.contains x.f.kind)++(if kk.contains x.f.kind then[x]else[]):=by
    grind
   generalize(pre.filter λx=>kk.contains x.f.kind)=l at*;refine xA ?_;intro z;refine qg lC hr (xS ?_);refine vn yy (VZ G a3 n3 c3 kk x.f.kind h3 av) U U U  ?_;refine xB ?_ ?_<;>intro h
   ·rw[if_pos h]at hfx;refine mh rI.cs 365 16 362 b5 λa6 c6=>?_;refine xZ ?_;intro b7;refine eD (x) U U U U av U iA iA iA iA iA av λa8 c8=>xS ?_;refine tD rI.cs 365 16 362 b5 (l++[x]) U ?_;rw[hfx];exact ll lC
   ·rw[if_neg bE,ah]at hfx;refine xS ?_;rw[hfx];exact ll lC
  ·intro D;dsimp only[ae,ai,ah];rw[<-Np];refine mh rI.cs 365 16 362 b5 λa6 c6=>xS ?_;exact bi4
 ·refine xB ?_ ?_<;>intro h
  ·have hk:ks=[]:=by simp_all
   subst hk;refine xZ ?_;intro b7;refine iu b7 (λx:Int=>[.int .i64 x]) [1,2] U (λ_=>rfl) ?_;exact X.less (fin ⟨(some ⟨b7,0,none⟩,2,2),U,by grind⟩) (Sub.of U) (by dsimp only;rw[show qu []=[1,2]from rfl];exact ay)
  ·have hk:ks≠[]:=by grind
   refine xS ?_;exact X.less (fin ⟨(a2,n2,c2),by grind,ug⟩) (Sub.of U) (by dsimp only;rw[qu,if_neg hk];exact ay)
end
section
variable(l:List rI)(b:Bs)(G:bZ)(pb:Nat)(f:mj)(out:Bs)(a:Option Addr)(n c:Nat)(xs:Bs)
structure Ext where
 cD:Bool
 at_:Int
 len:Int
deriving DecidableEq
@[reducible] def Ext.cs(x:Ext):List Value:=[.bool x.cD,.int .i64 x.at_,.int .i64 x.len]
def mb(at_:Int)(l:List Ext)(bD5:Int):List Ext:=if bD5>at_ then l++[⟨true,at_,bD5 - at_⟩]else l
def ke(s:Int×List Ext)(x:rI):Int×List Ext:=(x.at_+x.size,mb s.1 s.2 x.at_++[⟨false,x.at_,x.size⟩])
def rT(l:List rI):Int×List Ext:=l.foldl ke (0,[])
def cx(b:Bs):List Ext:=mb (rT (lq b)).1 (rT (lq b)).2 b.length
theorem sP(a:Int)(l:List Ext)(t:Int):(mb a l t).length<=l.length+1:=by
 grind [mb]
theorem RG(x:rI):rT (l++[x])=ke (rT l) x:=by simp[rT]
theorem Gz:∀(l:List rI) (s:Int×List Ext),(l.foldl ke s).2.length<=s.2.length+2*l.length
 |[],s=>by simp
 |x::r,s=>by
  rw[cY];have h1:=Gz r (ke s x);have h2:=sP s.1 s.2 x.at_;have h3:(ke s x).2.length=(mb s.1 s.2 x.at_).length+1:=by simp[ke]
  rw[ax];omega
theorem yG:(rT l).2.length<=2*l.length:=by grind [Gz,rT]
theorem Dj(n:Int):∀(l:List rI) (s:Int×List Ext),(∀x∈l,0<=x.at_/\9<=x.size/\x.at_+x.size<=n)->0<=s.1->s.1<=n->0<=(l.foldl ke s).1/\(l.foldl ke s).1<=n
 |[],s,_,h1,h2=>⟨h1,h2⟩
 |x::r,s,h,h1,h2=>by
  rw[cY];have h3:=h x nH;exact Dj n r _ (λy hy=>h y U8) (by show 0<=x.at_+x.size;omega) (by show x.at_+x.size<=n;omega)
theorem PT(pa po:Nat)(at_ bD5:Int)(l:List Ext)(h0:0<=at_)(h1:bD5<=1000000000)(h2:at_<=1000000000)(hl:l.length<=3000000000):
 TR ab G 368 #[.int .i64 bD5,au pa,au po] [bx pa 3 [.int .i64 at_],lE Ext.cs 404 3 268 po l] (cb λv B=>v=.tuple #[]/\B=[bx pa 3 [.int .i64 at_],lE Ext.cs 404 3 268 po (mb at_ l bD5)]):=by
 refine jr U λb β hb hG=>?_
 refine xB ?_ ?_<;>intro h
 ·rw[mb,if_pos bE];have h:at_<bD5:=bE;refine mh Ext.cs 404 3 268 po λa1 c1=>?_;refine xZ ?_;intro b7;refine eD ((⟨true,at_,bD5 - at_⟩:Ext)) U U U U av U iA iA iA iA iA av λa8 c8=>xS ?_;refine tD Ext.cs 404 3 268 po (l++[⟨true,at_,bD5 - at_⟩]) U ?_;exact xF
 ·rw[mb,if_neg bE];exact xF
theorem Dk(hn:xs.length=n)(oM:n<=c)(hs:n<=1000000000):
 TR ab G 266 #[.slice a n c] [bV RB 1 a xs] (cb (Rl Ext.cs 404 3 (cx xs))):=by
 refine cg U λb β hb hG=>?_
 have hlen:=lS xs
 have iq:=RF xs
 refine xS ?_
 refine jC U U λb3=>?_
 refine A7 Ext.cs 404 3 b3 U  ?_
 refine xA ?_
 intro b4
 refine xA ?_
 intro b5
 refine bw (Nq G a n c) ?_
 rintro v B ⟨q,rfl,rfl⟩
 refine xD ?_
 refine qh hG hb (Nr G q a n c xs hn oM av) U (λpre=>[bx b4 3 [.int .i64 (rT pre).1],lE Ext.cs 404 3 268 b3 (rT pre).2,bx b5 495 [.func (.func 368) #[] #[au b4,au b3]]]) [bx b4 3 [.int .i64 0],lE Ext.cs 404 3 268 b3 [],bx b5 495 [.func (.func 368) #[] #[au b4,au b3]]] U (λ_=>rfl) de ?_ ?_
 ·intro b' β' l' r pre x post hx lC yy hr;have tJ:(rT pre).2.length<=2*n:=by
   have:=yG pre;rw[hx]at hlen;simp at hlen;omega
  have Jd:=Dj n pre (0,[]) (λy hy=>by rw[<-hn];exact iq y (by rw[hx];simp[hy])) nH nH;have hxm:=iq x (by rw[hx];simp);have hfx:=RG pre x;change 0<=(rT pre).1/\(rT pre).1<=n at Jd;generalize rT pre=s at*;obtain⟨at_,l⟩:=s;dsimp only[ke]at*;have hjl:=sP at_ l x.at_;refine xA ?_;intro z;refine qg lC hr (xS ?_);refine gW (fst:=[]) (us:=[.int .i64 x.at_]) (cap:=[au b4,au b3]) yy (PT G b4 b3 at_ x.at_ l av av av av) U U U U aN.es ?_;rintro v B ⟨rfl,rfl⟩;dsimp only[ae,ai,ah];generalize mb at_ l x.at_=l2 at*;refine mh Ext.cs 404 3 268 b3 λa6 c6=>?_;refine xZ ?_;intro b7;refine eD ((⟨false,x.at_,x.size⟩:Ext)) U U U U SZ U iA iA iA iA iA av λa8 c8=>xS ?_;refine tD Ext.cs 404 3 268 b3 (l2++[⟨false,x.at_,x.size⟩]) U ?_;rw[hfx];exact ll lC
 ·intro D;dsimp only[ae,ai,ah];have tJ:=yG (lq xs);have Jd:=Dj n (lq xs) (0,[]) (λy hy=>by rw[<-hn];exact iq y hy) nH nH;change 0<=(rT (lq xs)).1/\(rT (lq xs)).1<=n at Jd;have Np:cx xs=mb (rT (lq xs)).1 (rT (lq xs)).2 xs.length:=U;generalize rT (lq xs)=s at*;obtain⟨at_,l⟩:=s;dsimp only at*;refine xS ?_;refine gW (fst:=[]) (us:=[.int .i64 n]) (cap:=[au b4,au b3]) hG (PT G b4 b3 at_ n l av av av av) U U U U aN.es ?_;rintro v B ⟨rfl,rfl⟩;dsimp only[ae,ai,ah];rw[hn]at Np;rw[<-Np];refine mh Ext.cs 404 3 268 b3 λa6 c6=>xS ?_;exact bi4
theorem J8(s:Bs×Bool)(h:(ru f s).2=true):ca (ru f s).1=0:=by
 grind [ru]
theorem H':(np b).2=true->ca (np b).1=0:=by
 grind [np,J8]
theorem rv(m:Int)(h:(bL b m).2.2=0):ca (bL b m).1=0:=by
 grind [bL,rS,H']
instance af3(x:Int):FJ ab 413 [.int .i64 x] [] (.bool (x==1||x==2)):=⟨λG=>by
 refine cg U λb β hb hG=>?_;refine xT 5 ?_ ?_<;>intro h
 ·exact aJ9
 ·refine xS ?_;exact bO hb (.tmps U) ⟨by simp[lx,h],U⟩⟩
theorem mT(h:ca f=0):(mS f).length<=6100:=by
 grind [qt,je,eE,uH,mS,yE,Cn,yA]
theorem Br(m:Nat)(h:(bL b m).2.2=0):9<=(bL b m).2.1/\(m:Int)+(bL b m).2.1<=b.length:=wv b m h
def Uc{σ:Type}(st:σ->rI->σ×Bool):Nat->Bs->Nat->σ->σ×Bool
 |0,_,_,s=>(s,true)
 |f+1,b,at_,s=>
  if b.length<=at_ then(s,true)
  else if(bL b at_).2.2≠0 then(s,false)
  else if(st s ⟨(bL b at_).1,at_,(bL b at_).2.1⟩).2=false then((st s ⟨(bL b at_).1,at_,(bL b at_).2.1⟩).1,false)
  else Uc st f b (at_+(bL b at_).2.1.toNat) (st s ⟨(bL b at_).1,at_,(bL b at_).2.1⟩).1
def gD{σ:Type}(st:σ->rI->σ×Bool)(b:Bs)(s:σ):σ×Bool:=Uc st (b.length+1) b 0 s
theorem J9{σ:Type}(st:σ->rI->σ×Bool)(S:σ->az)(ok:Nat->σ->Prop)(fe:Nat)[CF ab fe](cap:List Value)(a:Option Addr)(n c:Nat)(xs:Bs)(s0:σ)(hn:xs.length=n)(oM:n<=c)(hs:n<=1099511627776)(h0:ok 0 s0)(hY:∀(at_:Nat) (s:σ) (f:mj) (size:Int),9<=size->at_+size<=n->ca f=0->ok at_ s->
  TR ab G fe (([.int .i64 at_,.int .i64 size,.agg f.cs.toArray]:List Value)++cap).toArray [S s] (cb λv B=>v=.bool (st s ⟨f,at_,size⟩).2/\B=[S (st s ⟨f,at_,size⟩).1])/\((st s ⟨f,at_,size⟩).2=true->ok (at_+size.toNat) (st s ⟨f,at_,size⟩).1)):
 TR ab G 375 #[.slice a n c,.func (.func fe) #[] cap.toArray] [S s0,bV RB 1 a xs] (cb λv B=>v=.bool (gD st xs s0).2/\B=[S (gD st xs s0).1,bV RB 1 a xs]):=by
 refine aW U λb β hb hG=>xS ?_
 refine X.loop (ι:={q:Nat×σ // q.1<=n/\ok q.1 q.2/\∃f,n<q.1+f/\gD st xs s0=Uc st f xs q.1 q.2}) (λq=>([(0,.slice a n c),(1,.func (.func fe) #[] cap.toArray),(5,.int .i64 q.1.1)],[S q.1.2,bV RB 1 a xs])) (λq=>n - q.1.1) ⟨(0,s0),al _,h0,n+1,by dsimp only;omega,by rw[gD,hn]⟩ (Sub.of U) (aN.refl _) ?_
 rintro⟨⟨i,s⟩,hi,dp,f,hf,hE⟩ ih
 dsimp only at hi dp hf hE ih ⊢
 refine xB ?_ ?_<;>intro h
 ·have fw:i<n:=by grind
  obtain⟨f,rfl⟩:∃q,f=q+1:=by
   cases f<;>grind
  rw[Uc,if_neg av]at hE;refine xJ (pW G a n c xs i hn oM av) ?_;have hd:=Br xs i;have V1:=rv xs i;generalize bL xs i=d at*;obtain⟨fr,sz,er⟩:=d;dsimp only[RA]at hd V1 hE ⊢;refine xA ?_;intro b6;refine xT 22 ?_ ?_<;>intro h1
  ·rw[if_pos bE]at hE;exact aZ9
  ·have he0:er=0:=by grind
   rw[if_neg av]at hE;have hd:=hd he0;have hy:=hY i s fr sz hd.1 av (V1 he0) dp;refine xS ?_;refine gW (fst:=[]) (us:=[.int .i64 i,.int .i64 sz,.agg fr.cs.toArray]) (cap:=cap) hG hy.1 U U U U aN.es ?_;rintro v B ⟨rfl,rfl⟩;dsimp only[ae,ai,ah];have hy2:=hy.2;generalize st s ⟨fr,i,sz⟩=r at*;obtain⟨s',ok'⟩:=r;dsimp only at hy2 hE ⊢;refine xS ?_;cases ok'
   ·rw[if_pos U]at hE;exact aZ9
   ·rw[if_neg nH]at hE;refine xS ?_;rw[if_neg (show ¬sz<1 by omega)];refine xS ?_;exact X.less (ih ⟨(i+sz.toNat,s'),by omega,hy2 U,f,by omega,hE⟩ bE) (s3_ U U (eN U bB)) ay
 ·have fw:n<=i:=by grind
  have h0:gD st xs s0=(s,true):=by
   rw[hE];cases f<;>grind [Uc]
  refine xS ?_;exact bO hb (.tmps U) ⟨by rw[h0];rfl,by rw[h0]⟩
def nY(b:Bs)(p:Ptr):Bool:=
 ((bL b p.at_).2.2==0)&&((bL b p.at_).1.kind==1||(bL b p.at_).1.kind==2)&&((bL b p.at_).2.1==p.len)&&((bL b p.at_).1.kG.eB==p.eB)&&((bL b p.at_).1.kG.kind==p.kind)&&((bL b p.at_).1.kG.key==p.key)
theorem Ns(p:Ptr)(hn:xs.length=n)(oM:n<=c)(hs:n<=1099511627776):
 TR ab G 385 #[.slice a n c,.agg p.cs.toArray] [bV RB 1 a xs] (cT (.bool (nY xs p))):=by
 refine aW U λb β hb hG=>?_
 have out:∀{N vs k Hs} (x:Bool),nY xs p=x->lk vs 4=some (.bool x)->X ab b β none (.it (.code .ret::k)) ⟨N,vs,[]⟩ Hs (cT (.bool (nY xs p))):=by
  intro N vs k Hs x he h1;exact bO hb (.tmp h1 .nil) ⟨by rw[he];rfl,U⟩
 refine xP ?_
 intro b3
 refine xJ (pW G a n c xs p.at_ hn oM av) ?_
 have e0:nY xs p=(((bL xs p.at_).2.2==0)&&((bL xs p.at_).1.kind==1||(bL xs p.at_).1.kind==2)&&((bL xs p.at_).2.1==p.len)&&((bL xs p.at_).1.kG.eB==p.eB)&&((bL xs p.at_).1.kG.kind==p.kind)&&((bL xs p.at_).1.kG.key==p.key)):=U
 generalize bL xs p.at_=d at*
 obtain⟨fr,sz,er⟩:=d
 dsimp only[RA]at e0 ⊢
 refine xA ?_
 intro b5
 refine xA ?_
 intro b8
 refine xT 21 ?_ ?_<;>intro h1
 ·refine xT 26 ?_ ?_<;>intro h2
  ·refine xT 32 ?_ ?_<;>intro h3
   ·refine xT 39 ?_ ?_<;>intro h4
    ·refine xT 46 ?_ ?_<;>intro h5
     ·have h4':fr.kG.eB=p.eB:=by grind [gL]
      refine xS ?_;exact out _ bE U
     exact aO0
    ·have h4':¬fr.kG.eB=p.eB:=by grind
     exact bx8
   exact aO0
  exact aO0
 ·exact bx8
def BX(out:Bs)(f:mj):Bs:=if ca f=0 then out++mS f else out
theorem J'(f:mj):(BX out f).length<=out.length+6100:=by
 grind [BX,mT]
theorem V3(hl:out.length<=1000000000000):
 TR ab G 411 #[.agg f.cs.toArray,au pb] [tI 55 pb out] (cb λv B=>v=.bool (ca f==0)/\B=[tI 55 pb (BX out f)]):=by
 refine aW U λb β hb hG=>?_
 refine xP ?_
 intro b2
 refine bw (Aa G f) ?_
 rintro v B (⟨h0,a4,c4,rfl,rfl⟩|⟨h0,rfl,rfl⟩)
 ·have hle:=mT f h0;rw[BX,if_pos h0,h0];dsimp only[ae,ai,ah];generalize mS f=ys at*;refine xS ?_;refine Ps 55 pb λa1 c1=>xS ?_;refine iE a4 U λh7=>?_;refine iw U U U U U av λFH Z1=>xS ?_;refine av1 55 pb (out++ys) U ?_;exact xR
 ·rw[BX,if_neg h0];refine xD ?_;refine Ps 55 pb λa1 c1=>xS ?_;refine jl UInt8 RB 1 ?_;refine iw U U U U iA bB λFH Z1=>?_;rw[ah];refine xS ?_;refine av1 55 pb out U ?_;exact bO hb (.tmps U) ⟨by simp[lx],U⟩
def vv(x:rI):mj:=⟨3,Rec.zero,⟨x.f.kG.eB,x.f.kG.kind,x.at_,x.size,x.f.kG.key⟩,⟨0,⟨0,0,0⟩⟩⟩
def oP(s:Nat×Bs)(x:rI):(Nat×Bs)×Bool:=
 if(x.f.kind==1||x.f.kind==2)=true then((s.1+1,BX s.2 (vv x)),ca (vv x)==0)else((s.1+1,s.2),false)
@[reducible] def ofL(pc pp pb:Nat)(s:Nat×Bs):List az:=[bx pc 3 [.int .i64 s.1],bx pp 528 [.func (.func 411) #[] #[au pb]],tI 55 pb s.2]
theorem aX0(pc pp pb:Nat)(at_:Nat)(size:Int)(f:mj)(s:Nat×Bs)(h1:s.1<=1000000000)(h2:s.2.length<=1000000000000):
 TR ab G 412 #[.int .i64 at_,.int .i64 size,.agg f.cs.toArray,au pc,au pp] [cV (ofL pc pp pb s)] (cb λv B=>v=.bool (oP s ⟨f,at_,size⟩).2/\B=[cV (ofL pc pp pb (oP s ⟨f,at_,size⟩).1)]):=by
 refine TR.go (us:=[_,_,_,_,_]) (aI U) λb β hb hG=>?_
 obtain⟨Mo,out⟩:=s
 dsimp only at h1 h2 ⊢
 refine kZ (ofL pc pp pb (Mo,out)) ?_
 dsimp only[ofL]
 refine xD ?_
 refine xP ?_
 intro b7
 refine xA ?_
 intro b9
 have e0:oP (Mo,out) ⟨f,at_,size⟩=if(f.kind==1||f.kind==2)=true then((Mo+1,BX out (vv ⟨f,at_,size⟩)),ca (vv ⟨f,at_,size⟩)==0)else((Mo+1,out),false):=U
 refine xT 17 ?_ ?_<;>intro h
 ·rw[if_pos h]at e0;refine xS ?_;refine gW (fst:=[]) (us:=[.agg (vv ⟨f,at_,size⟩).cs.toArray]) (cap:=[au pb]) hG (V3 G pb (vv ⟨f,at_,size⟩) out av) U U U U aN.es ?_;rintro v B ⟨rfl,rfl⟩;refine xD ?_;exact aJ8
 ·rw[if_neg (by simp[h])]at e0;refine xS ?_;exact aJ8
theorem Dn(s:Nat×Bs)(x:rI)(h:s.2.length<=6100*s.1):(oP s x).1.2.length<=6100*(oP s x).1.1/\(oP s x).1.1=s.1+1:=by
 grind [oP,J']
def hintOf(b:Bs):Bs×Int:=
 if b.length>4194304 then([],100)
 else
  let w:=gD oP b (0,[])
  let ff:mj:=⟨4,Rec.zero,Ptr.zero,⟨w.1.1,⟨b.length,w.1.1,mC [b]⟩⟩⟩
  if w.2=true/\ca ff=0 then(BX w.1.2 ff,0)else([],100)
def V4(p:Bs×Int)(v:Value)(B:List az):Prop:=(p.2=0/\∃a c,v=.tuple #[.slice a p.1.length c,.int .i64 0]/\B=[own 5 1 a p.1.length c (p.1.map fO)])\/(p.2≠0/\v=.tuple #[.slice none 0 0,.int .i64 p.2]/\B=[])
theorem Ac{σ:Type}(st:σ->rI->σ×Bool)(I:σ->Prop)(hI:∀s x,I s->I (st s x).1):∀(f:Nat) (b:Bs) (m:Nat) (s:σ),I s->I (Uc st f b m s).1
 |0,_,_,s,h=>h
 |f+1,b,m,s,h=>by
  unfold Uc;split
  ·exact h
  ·split
   ·exact h
   ·split
    ·grind
    ·exact Ac st I hI f b _ _ (hI _ _ h)
theorem Dp:∀(f:Nat) (b:Bs) (m:Nat) (s:Nat×Bs),9*s.1<=m->m<=b.length->(Uc oP f b m s).1.1<=b.length
 |0,_,_,s,h,h2=>by grind [Uc]
 |f+1,b,m,s,h,h2=>by
  unfold Uc
  split
  ·grind
  ·split
   ·grind
   ·rename_i h3 h4;have h5:=Br b m av;have h6:(oP s ⟨(bL b m).1,m,(bL b m).2.1⟩).1.1=s.1+1:=by unfold oP;split<;>rfl
    split
    ·rw[h6];omega
    ·exact Dp f b _ _ (by rw[h6];omega) av
theorem Ia(hn:xs.length=n)(oM:n<=c)(hs:n<=1000000000):
 TR ab G 329 #[.slice a n c] [bV RB 1 a xs] (cb (V4 (hintOf xs))):=by
 refine cg U λb β hb hG=>?_
 refine xB ?_ ?_<;>intro h1
 ·have h1:n>4194304:=by grind
  have e0:hintOf xs=([],100):=by grind [hintOf]
  exact by1
 ·have h1:n<=4194304:=by grind
  have e0:hintOf xs=if(gD oP xs (0,[])).2=true/\ca ⟨4,Rec.zero,Ptr.zero,⟨(gD oP xs (0,[])).1.1,⟨n,(gD oP xs (0,[])).1.1,mC [xs]⟩⟩⟩=0 then(BX (gD oP xs (0,[])).1.2 ⟨4,Rec.zero,Ptr.zero,⟨(gD oP xs (0,[])).1.1,⟨n,(gD oP xs (0,[])).1.1,mC [xs]⟩⟩⟩,0)else([],100):=by
   grind [hintOf]
  refine xS ?_;refine jC U U λb4=>?_;refine bd0 b4 U  ?_;refine xA ?_;intro b5;refine xA ?_;intro b6;refine jc (ofL b6 b5 b4 (0,[])) ?_;refine bw (J9 G oP (λs=>cV (ofL b6 b5 b4 s)) (λm s=>9*s.1<=m/\s.2.length<=6100*s.1) 412 [au b6,au b5] a n c xs (0,[]) hn oM av nH ?_) ?_
  ·intro at_ s f size xz Jd _ dp
   grind [aX0,Dn]
  rintro v B ⟨rfl,rfl⟩;dsimp only[ae,ai,ah];have hwl:(gD oP xs (0,[])).1.2.length<=6100*(gD oP xs (0,[])).1.1:=Ac oP (λs=>s.2.length<=6100*s.1) (λs x h=>(Dn s x h).1) _ _ _ _ nH;have hwc:(gD oP xs (0,[])).1.1<=n:=by rw[<-hn];exact Dp _ _ _ _ nH nH
  generalize gD oP xs (0,[])=w at*;obtain⟨⟨Mo,out⟩,RH⟩:=w;dsimp only at hwl hwc e0 ⊢;refine kZ (ofL b6 b5 b4 (Mo,out)) ?_;dsimp only[ofL];refine xD ?_;generalize Z3:mC [xs]=cr at*;refine jI (ι:=Nat) (λb8=>([(4,au b4),(5,au b5),(6,au b6),(7,.bool RH),(8,au b8)],[bx b8 216 [.int .i64 n,.int .i64 Mo,.int .u32 cr.toNat],bx b6 3 [.int .i64 Mo],bx b5 528 [.func (.func 411) #[] #[au b4]],tI 55 b4 out])) (λb8=>?_) (λK fin=>?_)
  ·dsimp only;refine xT 25 ?_ ?_<;>intro h2
   ·refine xS ?_;have e1:hintOf xs=([],100):=bE;exact aR2
   ·have h2:RH=true:=by grind
    subst h2;refine xS ?_;refine gW (fst:=[]) (us:=[.agg (⟨4,Rec.zero,Ptr.zero,⟨Mo,⟨n,Mo,cr⟩⟩⟩:mj).cs.toArray]) (cap:=[au b4]) hG (V3 G b4 ⟨4,Rec.zero,Ptr.zero,⟨Mo,⟨n,Mo,cr⟩⟩⟩ out av) U U U U aN.es ?_;rintro v B ⟨rfl,rfl⟩;dsimp only[ae,ai,ah];generalize(⟨4,Rec.zero,Ptr.zero,⟨Mo,⟨n,Mo,cr⟩⟩⟩:mj)=ff at*;refine xB ?_ ?_<;>intro h3
    ·have h3:ca ff≠0:=by grind
     have e1:hintOf xs=([],100):=bE;refine xS ?_;exact aR2
    ·have h3:ca ff=0:=by grind
     have e1:hintOf xs=(BX out ff,0):=bE;refine Ps 55 b4 λa1 c1=>xS ?_;exact X.ret hb (.tmps U) ⟨_,.inl ⟨by rw[e1],a1,c1,by rw[e1];rfl,by rw[e1]⟩,ay⟩
  ·show X _ _ _ _ _ _ _ _;refine nR [0,1,2,3,6] [0] ?_;refine xL [0,1,2,3] ?_;refine xS ?_;refine dA U U U U U ?_ ?_
   ·refine xZ ?_;intro b20;refine dA U U U U U ?_ ?_
    ·refine HP b20 hn oM ?_;refine xJ (Dc G _ 1 1 [xs] U av bB) ?_;rw[Z3];dsimp only[Rj];refine xS ?_;refine xL [6] ?_;refine xA ?_;intro b8;exact X.W (fin b8)
    ·refine xA ?_;intro b8;exact ax5
   ·refine xA ?_;intro b8;refine xZ ?_;intro b20;exact ax5
structure Fi where
 over:Bool
 next:Int
 l:List Ptr
 fin:Rt
def rU(s:Fi)(x:rI):Fi×Bool:=
 if s.over=true then(s,false)
 else if x.f.kind=3/\x.f.ptr.at_=s.next then({s with next:=s.next+x.f.ptr.len,l:=s.l++[x.f.ptr]},true)
 else if x.f.kind=4 then({s with fin:=x.f.fin,over:=true},true)
 else(s,false)
@[reducible] def ldL(b9 b8 b6 b7:Nat)(s:Fi):List az:=[bx b9 4 [.bool s.over],bx b8 3 [.int .i64 s.next],lE Ptr.cs 214 5 281 b6 s.l,bx b7 218 s.fin.cs]
theorem V5(b9 b8 b6 b7:Nat)(at_ size:Int)(f:mj)(s:Fi)(h1:0<=s.next/\s.next<=1000000000000000000)(h2:s.l.length<=1000000000)(hg:ca f=0):
 TR ab G 376 #[.int .i64 at_,.int .i64 size,.agg f.cs.toArray,au b9,au b8,au b6,au b7] [cV (ldL b9 b8 b6 b7 s)] (cb λv B=>v=.bool (rU s ⟨f,at_,size⟩).2/\B=[cV (ldL b9 b8 b6 b7 (rU s ⟨f,at_,size⟩).1)]):=by
 refine TR.go (us:=[_,_,_,_,_,_,_]) (aI U) λb β hb hG=>?_
 have V1:=je hg
 obtain⟨_,_,_,_,kL,tK,hp3,hp4,_⟩:=V1
 obtain⟨over,next,l,fin⟩:=s
 dsimp only at h1 h2 ⊢
 refine kZ (ldL b9 b8 b6 b7 ⟨over,next,l,fin⟩) ?_
 dsimp only[ldL]
 refine xD ?_
 refine xP ?_
 intro bf
 cases over
 ·refine xS ?_;have e0:rU ⟨false,next,l,fin⟩ ⟨f,at_,size⟩=if f.kind=3/\f.ptr.at_=next then(⟨false,next+f.ptr.len,l++[f.ptr],fin⟩,true)else if f.kind=4 then(⟨true,next,l,f.fin⟩,true)else(⟨false,next,l,fin⟩,false):=U;refine xT 17 ?_ ?_<;>intro h3
  ·refine xB ?_ ?_<;>intro h4
   ·rw[if_pos ⟨by grind,by grind⟩]at e0;refine xS ?_;refine mh Ptr.cs 214 5 281 b6 λa6 c6=>?_;refine xZ ?_;intro b70;refine eD (f.ptr) U U U U av U iA iA iA iA iA av λa8 c8=>xS ?_;refine tD Ptr.cs 214 5 281 b6 (l++[f.ptr]) U ?_;exact bm0
   exact bB8
  exact bB8
 ·have e0:rU ⟨true,next,l,fin⟩ ⟨f,at_,size⟩=(⟨true,next,l,fin⟩,false):=U;exact bE0
@[reducible] def Fi.zero:Fi:=⟨false,0,[],⟨0,⟨0,0,0⟩⟩⟩
def gq(b:Bs)(p:ZX):List Ptr×Int:=
 let w:=gD rU b Fi.zero
 if w.2=false\/w.1.over=false\/w.1.fin.count≠w.1.l.length\/w.1.fin.print.bz≠w.1.l.length\/w.1.fin.print.bytes≠w.1.next then([],4)
 else if w.1.fin.print≠p then([],3)else(w.1.l,1)
def aA9(p:List Ptr×Int)(v:Value)(B:List az):Prop:=(p.2=1/\∃a c,v=.tuple #[.slice a p.1.length c,.int .i64 1]/\B=[own 214 5 a p.1.length c (p.1.flatMap Ptr.cs)])\/(p.2≠1/\v=.tuple #[.slice none 0 0,.int .i64 p.2]/\B=[])
theorem Ad(p:ZX)(hn:xs.length=n)(oM:n<=c)(hs:n<=1000000000):
 TR ab G 280 #[.slice a n c,.agg p.cs.toArray] [bV RB 1 a xs] (cb (aA9 (gq xs p))):=by
 refine aW U λb β hb hG=>?_
 refine xP ?_
 intro b3
 refine jC U U λb6=>?_
 refine A7 Ptr.cs 214 5 b6 U  ?_
 refine xA ?_
 intro b7
 refine xA ?_
 intro b8
 refine xA ?_
 intro b9
 refine ML (ldL b9 b8 b6 b7 Fi.zero) [bx b9 4 [.bool false],bx b8 3 [.int .i64 0],lE Ptr.cs 214 5 281 b6 [],bx b7 218 [.int .i64 0,.int .i64 0,.int .i64 0,.int .u32 0]] U ?_
 refine bw (J9 G rU (λs=>cV (ldL b9 b8 b6 b7 s)) (λm s=>0<=s.next/\s.next<=4194304*m/\s.l.length<=m) 376 [au b9,au b8,au b6,au b7] a n c xs Fi.zero hn oM av nH ?_) ?_
 ·intro at_ s f size xz Jd hg dp
  refine⟨V5 G b9 b8 b6 b7 at_ size f s av av hg,λ_=>?_⟩
  have V1:=je hg
  obtain⟨_,_,_,_,kL,tK,hp3,hp4,_⟩:=V1
  grind [rU]
 rintro v B ⟨rfl,rfl⟩
 dsimp only[ae,ai,ah]
 have e0:gq xs p=if(gD rU xs Fi.zero).2=false\/(gD rU xs Fi.zero).1.over=false\/(gD rU xs Fi.zero).1.fin.count≠(gD rU xs Fi.zero).1.l.length\/(gD rU xs Fi.zero).1.fin.print.bz≠(gD rU xs Fi.zero).1.l.length\/(gD rU xs Fi.zero).1.fin.print.bytes≠(gD rU xs Fi.zero).1.next then([],4)
  else if(gD rU xs Fi.zero).1.fin.print≠p then([],3)else((gD rU xs Fi.zero).1.l,1):=U
 generalize gD rU xs Fi.zero=w at*
 obtain⟨⟨over,next,l,fin⟩,RH⟩:=w
 dsimp only at e0 ⊢
 refine kZ (ldL b9 b8 b6 b7 ⟨over,next,l,fin⟩) ?_
 dsimp only[ldL]
 dsimp only[ae,ai,ah]
 have no4:∀{N vs k Hs},gq xs p=([],4)->lk vs 4=some (.slice none 0 0)->lk vs 5=some (.int .i64 4)->X ab b β none (.it (.code .ret::k)) ⟨N,vs,[]⟩ Hs (cb (aA9 (gq xs p))):=by
  intro N vs k Hs he h1 h2;exact X.ret hb (.tmp h1 (.tmp h2 .nil)) ⟨_,.inr ⟨by grind,by rw[he];rfl,U⟩,aN.nil _⟩
 refine mh Ptr.cs 214 5 281 b6 λa6 c6=>?_
 refine xT 17 ?_ ?_<;>intro h1
 ·rw[if_pos (.inl bE)]at e0;exact bo8
 ·have z1:RH=true:=by grind
  refine xT 21 ?_ ?_<;>intro h2
  ·rw[if_pos (.inr (.inl bE))]at e0;exact bo8
  ·have z2:over=true:=by grind
   refine xT 28 ?_ ?_<;>intro h3
   ·rw[if_pos (.inr (.inr (.inl bE)))]at e0;exact bo8
   ·have z3:fin.count=l.length:=by grind
    refine xT 36 ?_ ?_<;>intro h4
    ·rw[if_pos (.inr (.inr (.inr (.inl bE))))]at e0;exact bo8
    ·have z4:fin.print.bz=l.length:=by grind
     refine xB ?_ ?_<;>intro h5
     ·rw[if_pos (.inr (.inr (.inr (.inr bE))))]at e0;exact bo8
     ·have z5:fin.print.bytes=next:=by grind
      rw[if_neg bE]at e0;refine xB ?_ ?_<;>intro h6
      ·have z6:fin.print≠p:=by grind
       rw[if_pos z6]at e0;exact by1
      ·have z6:fin.print=p:=by
        obtain⟨q1,q2,q3⟩:=p
        obtain⟨_,⟨r1,r2,r3⟩⟩:=fin
        grind [dM]
       rw[if_neg (by simp[z6])]at e0;refine xS ?_;exact X.ret hb (.tmps U) ⟨_,.inl ⟨by rw[e0],a6,c6,by rw[e0];rfl,by rw[e0]⟩,ay⟩
def dy(s:Bs):Bool:=decide (1<=s.length)&&decide (s.length<=60)
instance ba4(s:Bs):FJ ab 23 [ao s] [] (.bool (dy s)):=⟨λG=>by
 refine cg U λb β hb hG=>?_;refine xT 6 ?_ ?_<;>intro h
 ·exact aA3
 ·have h1:s=[]:=by simp at h;cases s with|nil=>rfl|cons _ _=>grind
  subst h1;refine xS ?_;exact bO hb (.tmps U) ⟨U,U⟩⟩
theorem bu5(x:Nat)(h:0<x):decide (((x - 1:Nat):Int)=0)=(x==1):=by
 grind
structure DH where
 cap:Nat
 used:Nat
 bU:Int
 ga:Nat
 ep:Nat
 done:Bool
 down:Bool
@[reducible] def DH.cs(M:Nat)(h:DH):List Value:=[.int .i64 h.cap,.int .i64 h.used,.map (some M),.int .i64 h.bU,.int .i64 h.ga,.int .i64 h.ep,.bool h.done,.bool h.down]
structure bF where
 data:Bs
 last:Nat
deriving DecidableEq
theorem V6(D M:Nat)(h:DH)(hb':h.ga<=9223372036854775807):
 TR ab G 296 #[.pointer (some ⟨D,4,none⟩)] [bx D 74 (h.cs M)] (cb λv B=>v=.bool (h.ga==1)/\B=[bx D 74 (DH.cs M {h with ga:=h.ga - 1})]):=by
 refine cg U λb β hb hG=>?_
 obtain⟨cap,used,bU,fa,ba,dn,dw⟩:=h
 dsimp only[DH.cs]at hb' ⊢
 refine xB ?_ ?_<;>intro h1
 ·have h1:0<fa:=by grind
  refine xS ?_;rw[show((fa:Int) - 1)=((fa - 1:Nat):Int)from by omega];exact Xs
 ·have h1:fa=0:=by grind
  subst h1;exact xR
theorem V7(D M:Nat)(h:DH)(hb':h.ep<=9223372036854775807):
 TR ab G 296 #[.pointer (some ⟨D,5,none⟩)] [bx D 74 (h.cs M)] (cb λv B=>v=.bool (h.ep==1)/\B=[bx D 74 (DH.cs M {h with ep:=h.ep - 1})]):=by
 refine cg U λb β hb hG=>?_
 obtain⟨cap,used,bU,fa,ba,dn,dw⟩:=h
 dsimp only[DH.cs]at hb' ⊢
 refine xB ?_ ?_<;>intro h1
 ·have h1:0<ba:=by grind
  refine xS ?_;rw[show((ba:Int) - 1)=((ba - 1:Nat):Int)from by omega];exact Xs
 ·have h1:ba=0:=by grind
  subst h1;exact xR
end
end Go.Proofs
