/- A part of the proof of LabPlays. -/
import Derived.Test.YtcicblljnenhoaaGreatDoorQC
open Bool renaming false->aQ,false_eq_true->di,true->aP
open Go renaming Addr->aX,Ending->aZ,Frame->bc,Oper->aW,Operand->aY,Program->aT,Value->aR,World->aV,execOp->aU
open Go.Instr renaming checkKey->iI
open Int renaming toNat_natCast->gS
open Go.IntKind renaming bits->iM,i64->eu,signed->jX,wrap->jm
open Go.Lib renaming compareBytes->dY
open List renaming Perm.cons->iJ,Perm.refl->ie,Perm.swap->fM,append_assoc->cB,append_nil->bj,cons_append->bh,drop_eq_getElem_cons->bP,drop_of_length_le->cx,filterMap_cons->fZ,findIdx?_eq_some_iff_getElem->cA,flatMap_cons->ei,foldl_cons->eD,getElem?_eq_getElem->bX,getElem?_map->eX,getElem_cons_succ->fg,getElem_map->gG,getElem_mem->bE,length->eP,length_append->bK,length_cons->bL,length_filter_le->eF,length_map->bF,length_nil->dU,length_pos_iff->gL,length_set->fJ,length_take->dG,map_append->dx,map_congr_left->cY,map_cons->bN,map_map->dK,map_nil->jo,map_set->fL,mem_append->du,mem_cons->cW,mem_map->cu,mem_singleton->cK,nil_append->bk,nodup_append->fN,nodup_cons->gy,perm_append_comm->cH,perm_middle->gF,sum_cons->fS,take_add_one->cg,take_append_drop->dV,take_length->bV,take_of_length_le->bI,take_succ_eq_append_getElem->dO,take_zero->jr
open Nat renaming add_mul->ic,blt->bM,le_add_right->bW,le_of_ble_eq_true->bH,le_refl->bz,le_succ->iz,le_trans->bo,mul_le_mul_right->eB,zero_add->bT,zero_le->bp
open Option renaming getD_some->dz,map_eq_some_iff->cz,map_some->cO,none->aO,some->aN,some.injEq->gR
open Go.Result renaming andThen_ok->bJ
open Go.Sem renaming run->gz,run_bind->cb
open Go.Proofs.Tryz renaming prog->be,underlying3->gE,underlying9->gD
open UInt32 renaming toNat_inj->fk
open UInt64 renaming ofNat->gQ,toNat_inj->iX
open UInt8 renaming ofNat->cV
open Go.Value renaming agg->iD
open _root_ renaming Array->ar,Bool->ai,Except->aB,Int->ae,List->Y,Nat->ab,Option->ah,String->aC,UInt32->av,UInt64->az,UInt8->au,Unit->aA,absurd->aD,congrArg->aH,if_false->aI,if_neg->aj,if_pos->ao,inferInstance->ax
set_option linter.all false
set_option maxHeartbeats 4000000
namespace Go.Proofs
open Go.Sl
set_option maxRecDepth 8000
section
variable{l m:Y (Bs×cN)}{args:ar aR}{R:aZ->Y bG->Prop}{f:FuncId}{A:Y bG}{t:cd}{α:Type}{P:aT}{e:aR}(p q:Place)(G:dA)(K:ab)(d:fu)(a:ah aX)(n c:ab)(xs:Y Seen)(D:ab)(s:cd)(name:Bs)
structure cd.eqv(t s:cd):Prop where
 cap:t.cap=s.cap
 used:t.used=s.used
 fa:t.iu=s.iu
 ba:t.fK=s.fK
 done:t.done=s.done
 down:t.down=s.down
 files:t.files.Perm s.files
theorem cd.eqv.refl:s.eqv s:=⟨U,U,U,U,U,U,.refl _⟩
theorem cd.eqv.symm{s:cd}(h:t.eqv s):s.eqv t:=⟨h.cap.symm,h.used.symm,h.fa.symm,h.ba.symm,h.done.symm,h.down.symm,h.files.symm⟩
theorem cd.eqv.trans{s u:cd}(h:t.eqv s)(g:s.eqv u):t.eqv u:=⟨h.cap.trans g.cap,h.used.trans g.used,h.fa.trans g.fa,h.ba.trans g.ba,h.done.trans g.done,h.down.trans g.down,h.files.trans g.files⟩
theorem ue(h:l.Perm m):iq l=iq m:=by
 grind [iq]
theorem cd.eqv.ok{s:cd}(h:t.eqv s)(g:t.ok):s.ok where
 nd:=(h.files.map _).nodup_iff.1 g.nd
 yA:=by rw[<-h.used,<-ue h.files];exact g.yA
 le:=by rw[<-h.used,<-h.cap];exact g.le
 cap:=by rw[<-h.cap];exact g.cap
 fa:=by rw[<-h.fa];exact g.fa
 ba:=by rw[<-h.ba];exact g.ba
 last:=λx hx=>g.last x (h.files.mem_iff.2 hx)
 name:=λx hx=>g.name x (h.files.mem_iff.2 hx)
theorem VR{n:Bs}(h:l.Perm m):(l.map (·.1)).Nodup->l.find? (·.1=n)=m.find? (·.1=n):=by
 induction h<;>grind
theorem Jk(h:l.Perm m)(hn:(l.map (·.1)).Nodup)(n:Bs):kO l n=kO m n:=by
 unfold kO;rw[VR h hn]
theorem Jl(h:l.Perm m)(n:Bs)(f:cN):(oV l n f).Perm (oV m n f):=h.map _
theorem x8(h:l.Perm m)(n:Bs):(lL l n).Perm (lL m n):=h.filter _
section
variable {t s:cd}
theorem cd.eqv.find(h:t.eqv s)(g:t.ok)(n:Bs)(r:ai):t.find n r=s.find n r:=by
 unfold cd.find;rw[h.down,Jk h.files g.nd]
theorem cd.eqv.jg(h:t.eqv s)(hp:l.Perm m)(u:ab):(t.jg l u).2=(s.jg m u).2/\(t.jg l u).1.eqv (s.jg m u).1:=by
 have ha:t.qu.eqv s.qu:=⟨h.cap,h.used,by show t.iu - 1=_;rw[h.fa];rfl,by show t.fK - 1=_;rw[h.ba];rfl,h.done,h.down,h.files⟩;unfold cd.jg;rw[h.ba,h.done,h.fa];split
 ·split
  ·exact⟨U,⟨ha.cap,U,ha.fa,ha.ba,ha.done,U,hp⟩⟩
  ·exact⟨U,⟨ha.cap,ha.used,ha.fa,ha.ba,ha.done,U,ha.files⟩⟩
 ·split
  ·grind
  ·exact⟨U,⟨ha.cap,U,ha.fa,ha.ba,ha.done,ha.down,hp⟩⟩
theorem cd.eqv.create(h:t.eqv s)(g:t.ok)(n:Bs):(t.create n).2=(s.create n).2/\(t.create n).1.eqv (s.create n).1:=by
 unfold cd.create
 rw[h.find g,h.used]
 split
 ·grind
 ·split
  ·exact h.jg (h.files.append_right _) _
  grind
theorem cd.eqv.append(h:t.eqv s)(g:t.ok)(n ys:Bs):(t.append n ys).2=(s.append n ys).2/\(t.append n ys).1.eqv (s.append n ys).1:=by
 unfold cd.append
 rw[h.find g,h.used,h.cap]
 split
 ·split
  ·grind
  exact a89
 grind
theorem cd.eqv.sync(h:t.eqv s)(g:t.ok)(n:Bs):(t.sync n).2=(s.sync n).2/\(t.sync n).1.eqv (s.sync n).1:=by
 unfold cd.sync
 rw[h.find g,h.used]
 split
 ·split
  ·grind
  exact bJ8
 grind
theorem cd.eqv.remove(h:t.eqv s)(g:t.ok)(n:Bs):(t.remove n).2=(s.remove n).2/\(t.remove n).1.eqv (s.remove n).1:=by
 unfold cd.remove
 rw[h.find g,ue (x8 h.files n)]
 split
 ·grind
 ·exact h.jg (x8 h.files _) _
theorem cd.eqv.rename(h:t.eqv s)(g:t.ok)(n m:Bs):(t.rename n m).2=(s.rename n m).2/\(t.rename n m).1.eqv (s.rename n m).1:=by
 unfold cd.rename
 rw[h.find g]
 have hp:∀f,(t.renamed n m f).Perm (s.renamed n m f):=λf=>by
  unfold cd.renamed;split
  ·exact h.files
  ·exact(x8 (x8 h.files _) _).append_right _
 split
 ·split
  ·grind
  ·rw[ue (hp _)];exact h.jg (hp _) _
 grind
theorem cd.eqv.truncate(h:t.eqv s)(g:t.ok)(n:Bs)(k:ae):(t.truncate n k).2=(s.truncate n k).2/\(t.truncate n k).1.eqv (s.truncate n k).1:=by
 unfold cd.truncate
 rw[h.find g,h.used]
 split
 ·split
  ·grind
  exact a89
 grind
theorem cd.eqv.read(h:t.eqv s)(g:t.ok)(n:Bs)(i j:ae):(t.read n i j).2=(s.read n i j).2/\(t.read n i j).1.eqv (s.read n i j).1:=by
 unfold cd.read
 rw[h.find g,h.used]
 split
 ·split
  ·grind
  ·have ha:=h.jg h.files s.used
   grind
 grind
theorem cd.eqv.names(h:t.eqv s):t.names=s.names:=pI (h.files.map _)
theorem cd.eqv.told(h:t.eqv s)(g:t.ok)(sz:cN->ab):t.told sz=s.told sz:=by
 unfold cd.told;rw[h.names];apply cY;intro x _;unfold vp;rw[Jk h.files g.nd]
theorem cd.eqv.jU(h:t.eqv s)(k:ae):(t.jU k).eqv (s.jU k):=
 have hp:=h.files.map λx:Bs×cN=>(x.1,oW k.toNat x.2)
 ⟨h.cap,ue hp,U,U,h.done,U,hp⟩
end
def cJ(D:ab)(s:cd):bG:=ex λt:cd=>[pu (t.eqv s),lz D t]
theorem jQ{D:ab}{s:cd}(h:t.eqv s)(F:Y bG):bS (lz D t::F) (cJ D s::F):=
 (fE h _).trans (iY (f:=λt:cd=>[pu (t.eqv s),lz D t]) t F)
section
variable {b:bc}{O:de}{k:Kt}{E:Env}{H F:Y bG}{R:aZ->Y bG->Prop}{cc:ah (ar aW×Y aW)}
theorem qV{s:cd}[hf:FK H cJ D s F](h:s.ok->X be b O cc k E H R):X be b O cc k E H R:=
 j9 λw hs=>by
  obtain⟨t,h1⟩:=jB (hs.dE hf.out);obtain⟨ht,h2⟩:=lR h1;obtain⟨q,h3⟩:=jB h2;exact⟨H,hs,h (ht.ok (lR h3).1)⟩
theorem bn5{s:cd}(s':cd)(he:s.eqv s')[hf:FK H cJ D s F](h:X be b O cc k E (cJ D s'::F) R):X be b O cc k E H R:=
 j9 λw hs=>by
  obtain⟨t,h1⟩:=jB (hs.dE hf.out);obtain⟨ht,h2⟩:=lR h1;exact⟨_,h2.dE (jQ (ht.trans he) _),h⟩
end
theorem lC{G:dA}{f:ab}{D:ab}{s:cd}(h:∀t:cd,t.ok->t.eqv s->TR be G f args (lz D t::A) R):TR be G f args (cJ D s::A) R:=by
 intro O w hG hs
 obtain⟨t,h1⟩:=jB hs
 obtain⟨ht,h2⟩:=lR h1
 have eI:t.ok:=by obtain⟨q,h3⟩:=jB h2;exact(lR h3).1
 exact h t eI ht O w hG h2
theorem kF{G:dA}{f:ab}{Q Q':aR->Y bG->Prop}(h:TR be G f args A (dC Q))(hq:∀v B,Q v B->∃C,Q' v C/\bS B C):TR be G f args A (dC Q'):=
 h.eY (bS.refl _) λe B hB=>by
  cases e with
  |panicked ch=>exact hB.elim
  |outgrown=>exact hB.elim
  |returned v=>exact hq v B hB
theorem Gr:
 TR be G 309 #[bu D,bn name] [cJ D s] (dC λv B=>v=.int .i64 (s.create name).2/\B=[cJ D (s.create name).1]):=
 lC λt eI ht=>kF (Vg G D t name) λv B ⟨h1,h2⟩=>⟨_,⟨by rw[h1,(ht.create eI name).1],U⟩,h2▸jQ (ht.create eI name).2 []⟩
theorem Gs:
 TR be G 127 #[bu D,bn name] [cJ D s] (dC λv B=>v=.int .i64 (s.sync name).2/\B=[cJ D (s.sync name).1]):=
 lC λt eI ht=>kF (aB3 G D t name) λv B ⟨h1,h2⟩=>⟨_,⟨by rw[h1,(ht.sync eI name).1],U⟩,h2▸jQ (ht.sync eI name).2 []⟩
theorem Ra:
 TR be G 273 #[bu D,bn name] [cJ D s] (dC λv B=>v=.int .i64 (s.remove name).2/\B=[cJ D (s.remove name).1]):=
 lC λt eI ht=>kF (Vj G D t name) λv B ⟨h1,h2⟩=>⟨_,⟨by rw[h1,(ht.remove eI name).1],U⟩,h2▸jQ (ht.remove eI name).2 []⟩
theorem Rb(from_ b50:Bs):
 TR be G 277 #[bu D,bn from_,bn b50] [cJ D s] (dC λv B=>v=.int .i64 (s.rename from_ b50).2/\B=[cJ D (s.rename from_ b50).1]):=
 lC λt eI ht=>kF (Vm G D t from_ b50) λv B ⟨h1,h2⟩=>⟨_,⟨by rw[h1,(ht.rename eI from_ b50).1],U⟩,h2▸jQ (ht.rename eI from_ b50).2 []⟩
theorem K'(n:ae):
 TR be G 279 #[bu D,bn name,.int .i64 n] [cJ D s] (dC λv B=>v=.int .i64 (s.truncate name n).2/\B=[cJ D (s.truncate name n).1]):=
 lC λt eI ht=>kF (Ng G D t name n) λv B ⟨h1,h2⟩=>⟨_,⟨by rw[h1,(ht.truncate eI name n).1],U⟩,h2▸jQ (ht.truncate eI name n).2 []⟩
theorem Gt(a2:ah aX)(m c2:ab)(ys:Bs)(hm:ys.length=m)(Ik:m<=1000000000000):
 TR be G 207 #[bu D,bn name,.slice a2 m c2] [cJ D s,dp RB 1 a2 ys] (dC λv B=>v=.int .i64 (s.append name ys).2/\B=[cJ D (s.append name ys).1,dp RB 1 a2 ys]):=
 lC λt eI ht=>kF (Vh G D t name a2 m c2 ys hm Ik) λv B ⟨h1,h2⟩=>⟨_,⟨by rw[h1,(ht.append eI name ys).1],U⟩,h2▸jQ (ht.append eI name ys).2 _⟩
theorem ac4(at_ n:ae)(ha:at_<=9223372036854775807)(hnn:n<=9223372036854775807):
 TR be G 218 #[bu D,bn name,.int .i64 at_,.int .i64 n] [cJ D s] (dC λv B=>∃B',aZ2 (s.read name at_ n).2 v B'/\B=cJ D (s.read name at_ n).1::B'):=
 lC λt eI ht=>kF (aB5 G D t name at_ n ha hnn) λv B ⟨B',h1,h2⟩=>⟨_,⟨B',by rw[<-(ht.read eI name at_ n).1];exact h1,U⟩,h2▸jQ (ht.read eI name at_ n).2 _⟩
theorem VT(hl:s.files.length<=1000000000000):
 TR be G 119 #[bu D] [cJ D s] (dC λv B=>∃a c,v=.slice a s.names.length c/\B=[own 9 1 a s.names.length c (s.names.flatMap λk=>[bn k]),cJ D s]):=
 lC λt eI ht=>kF (Ni G D t bs9) λv B ⟨a,c,h1,h2⟩=>⟨_,⟨a,c,by rw[h1,ht.names],U⟩,by rw[h2,ht.names];exact bS.cons _ (jQ ht [])⟩
theorem kj(hl:s.files.length<=1000000000000):
 TR be G 30 #[bu D] [cJ D s] (dC λv B=>∃a c,v=.slice a s.all.length c/\B=[zi a c s.all,cJ D s]):=
 lC λt eI ht=>kF (ZI G D t bs9) λv B ⟨a,c,h1,h2⟩=>⟨_,⟨a,c,by rw[h1,show t.all=s.all from ht.told eI _],U⟩,by rw[h2,show t.all=s.all from ht.told eI _];exact bS.cons _ (jQ ht [])⟩
theorem NX(hl:s.files.length<=1000000000000)(_:s.ok):
 TR be G 125 #[bu D] [cJ D s] (dC λv B=>∃a c,v=.slice a s.nv.length c/\B=[zi a c s.nv,cJ D s]):=
 lC λt eI ht=>kF (QH G D t bs9 eI) λv B ⟨a,c,h1,h2⟩=>⟨_,⟨a,c,by rw[h1,show t.nv=s.nv from ht.told eI _],U⟩,by rw[h2,show t.nv=s.nv from ht.told eI _];exact bS.cons _ (jQ ht [])⟩
theorem Jm(jM:ae):
 TR be G 29 #[bu D,.int .i64 jM] [cJ D s] (dC λv B=>v=.int .i64 0/\B=[cJ D (s.jU jM)]):=
 lC λt eI ht=>kF (ZN G D t jM) λv B ⟨h1,h2⟩=>⟨_,⟨h1,U⟩,h2▸jQ (ht.jU jM) []⟩
theorem Gu:TR be G 120 #[bu D] [cJ D s] (dC λv B=>v=.bool s.down/\B=[cJ D s]):=by
 refine lC λt eI ht=>TR.go (us:=[_]) (bH U) λb O hb hG=>?_;refine X.l8 lz D U λq=>?_;obtain⟨M,dq⟩:=q;refine xD ?_;rw[<-ht.down];exact ac5
theorem A4:TR be G 42 #[bu D] [cJ D s] (dC λv B=>v=.int .i64 s.cap/\B=[cJ D s]):=by
 refine lC λt eI ht=>TR.go (us:=[_]) (bH U) λb O hb hG=>?_;refine X.l8 lz D U λq=>?_;obtain⟨M,dq⟩:=q;refine xD ?_;rw[<-ht.cap];exact ac5
theorem NY:TR be G 32 #[bu D] [cJ D s] (dC λv B=>v=.int .i64 s.used/\B=[cJ D s]):=by
 refine lC λt eI ht=>TR.go (us:=[_]) (bH U) λb O hb hG=>?_;refine X.l8 lz D U λq=>?_;obtain⟨M,dq⟩:=q;refine xD ?_;rw[<-ht.used];exact ac5
def cd.fail(s:cd)(n:ae):cd×ae:=if n<0 then(s,70)else({s with iu:=n.toNat},0)
def cd.break(s:cd)(n:ae)(dn:ai):cd×ae:=if n<0 then(s,70)else({s with fK:=n.toNat,done:=dn},0)
theorem NZ(n:ae)(hn:n<=9223372036854775807):TR be G 25 #[bu D,.int .i64 n] [cJ D s] (dC λv B=>v=.int .i64 (s.fail n).2/\B=[cJ D (s.fail n).1]):=by
 refine lC λt eI ht=>TR.go (us:=[_,_]) (bH U) λb O hb hG=>?_;unfold cd.fail;refine X.l8 lz D U λq=>?_;obtain⟨M,dq⟩:=q;dsimp only[bh,bk,bj];refine mF λ_=>?_;refine yB (n<0) (¬n<0) ?_ ?_<;>intro h1
 ·exact a90
 ·rw[aj h1];obtain⟨m,rfl⟩:∃k:ab,n=k:=⟨n.toNat,by omega⟩;rw[gS];refine xS ?_;refine X.ret hb (.tmps U) ⟨_,⟨U,U⟩,(bS.ej (s:={t with iu:=m}) (dq:=dq) ⟨eI.nd,eI.yA,eI.le,eI.cap,by grind,eI.ba,eI.last,eI.name⟩ (bS.refl _)).trans (jQ (t:={t with iu:=m}) (s:={s with iu:=m}) ⟨ht.cap,ht.used,U,ht.ba,ht.done,ht.down,ht.files⟩ [])⟩
theorem Jn(n:ae)(dn:ai)(hn:n<=9223372036854775807):TR be G 28 #[bu D,.int .i64 n,.bool dn] [cJ D s] (dC λv B=>v=.int .i64 (s.break n dn).2/\B=[cJ D (s.break n dn).1]):=by
 refine lC λt eI ht=>TR.go (us:=[_,_,_]) (bH U) λb O hb hG=>?_;unfold cd.break;refine X.l8 lz D U λq=>?_;obtain⟨M,dq⟩:=q;dsimp only[bh,bk,bj];refine mF λ_=>?_;refine yB (n<0) (¬n<0) ?_ ?_<;>intro h1
 ·exact a90
 ·rw[aj h1];obtain⟨m,rfl⟩:∃k:ab,n=k:=⟨n.toNat,by omega⟩;rw[gS];refine xS ?_;refine X.ret hb (.tmps U) ⟨_,⟨U,U⟩,(bS.ej (s:={t with fK:=m,done:=dn}) (dq:=dq) ⟨eI.nd,eI.yA,eI.le,eI.cap,eI.fa,by grind,eI.last,eI.name⟩ (bS.refl _)).trans (jQ (t:={t with fK:=m,done:=dn}) (s:={s with fK:=m,done:=dn}) ⟨ht.cap,ht.used,ht.fa,U,U,ht.down,ht.files⟩ [])⟩
def bV9(p:ah cd×ae)(v:aR)(B:Y bG):Prop:=match p with
 |(aO,e)=>v=.tuple #[.pointer aO,.int .i64 e]/\B=[]
 |(aN s,e)=>∃D,v=.tuple #[bu D,.int .i64 e]/\B=[cJ D s]
theorem x9(cap:ae)(a:ah aX)(n c:ab)(xs:Y ca)(hn:xs.length=n)(hs:n<=1099511627776)(hb:∀x∈xs,x.data.length<=1000000000000):
 TR be G 8 #[.int .i64 cap,.slice a n c] [dp AP 2 a xs] (dC (bV9 (mh cap xs))):=
 kF (bq6 G cap a n c xs hn hs hb) λv B h=>by
  generalize mh cap xs=p at*;match p,h with
  |(aO,e),h=>exact⟨_,h,bS.refl _⟩
  |(aN s,e),⟨D,h1,h2⟩=>exact⟨_,⟨D,h1,U⟩,h2▸jQ (cd.eqv.refl s) []⟩
theorem XY{G:dA}{A A':bG}(h:TR P G f args [A] (dC λv B=>v=e/\B=[A']))(p:bG):TR P G f args [p,A] (dC λv B=>v=e/\B=[p,A']):=by
 refine(BX h [p]).eY (eo _ _ _) ?_;rintro(v|c|_) B h
 ·obtain⟨B',⟨rfl,rfl⟩,rfl⟩:=h;exact⟨_,⟨U,U⟩,eo _ _ _⟩
 ·exact h.elim
 ·exact h.elim
abbrev WD:=Wr×cd
def WD.settle(x:WD):WD×ae:=
 if x.1.loose=0 then(x,0)else
 let r:=x.2.sync (iG x.1)
 if r.2=0 then(({x.1.hit r.2 with loose:=0,count:=0},r.1),0)else((x.1.hit r.2,r.1),r.2)
theorem Cz(W D:ab)(x:WD):
 TR be GG 142 #[bu W] [bx W 177 (x.1.cs D),cJ D x.2] (dC λv B=>v=.int .i64 x.settle.2/\B=[bx W 177 (x.settle.1.1.cs D),cJ D x.settle.1.2]):=by
 refine dH U λb O hb hG=>xS ?_
 have e0:x.settle=if x.1.loose=0 then(x,0)else if(x.2.sync (iG x.1)).2=0 then(({x.1.hit (x.2.sync (iG x.1)).2 with loose:=0,count:=0},(x.2.sync (iG x.1)).1),0)else((x.1.hit (x.2.sync (iG x.1)).2,(x.2.sync (iG x.1)).1),(x.2.sync (iG x.1)).2):=U
 generalize x.settle=y at*
 refine yB (x.1.loose=0) (¬x.1.loose=0) ?_ ?_<;>intro h0
 ·rw[ao h0]at e0;subst e0;exact xR
 ·rw[aj h0]at e0;refine xS ?_;have hd:TR be GG 127 ([bu D]++[bn (iG x.1)]++[]).toArray [bx W 177 (x.1.cs D),cJ D x.2] (dC λv B=>v=.int .i64 (x.2.sync (iG x.1)).2/\B=[bx W 177 (x.1.cs D),cJ D (x.2.sync (iG x.1)).1]):=XY (Gs GG D x.2 (iG x.1)) _;refine xH (K9 W D x.1 127 [bu D] [] (cJ D x.2) _ _ hd) ?_;generalize x.2.sync (iG x.1)=r at*;refine yB (r.2=0) (¬r.2=0) ?_ ?_<;>intro h1
  ·rw[ao h1]at e0;subst e0;rw[h1];refine xS ?_;exact X.ret hb (.tmps U) ⟨[bx W 177 (Wr.cs D {x.1.hit 0 with loose:=0,count:=0}),cJ D r.1],⟨U,U⟩,bA⟩
  ·rw[aj h1]at e0;subst e0;exact xR
theorem La:TR be G 145 #[] [] (dC λv B=>∃K,v=bu K/\B=[jc K []]):=by
 refine SV λb O hb hG=>xS ?_;refine sP bn U U λM=>?_;refine xP ?_;intro K;refine Km (([]:uc).map kA) [] U ?_;refine X.dE (bS.trans (bA (A:=[bx K 234 [.map (aN M)],mp bn M [],dZ (([]:uc).map kA)])) (aG0 (M:=M) (fs:=[]) (d:=[]) (ie _) ⟨List.nodup_nil,λx hx=>vE,λx hx=>vE⟩ [])) ?_;exact cT hb (.tmps U) ⟨K,U,U⟩
theorem bm6{G:dA}(h:TR P G f args [] (dX e))(p:bG):TR P G f args [p] (dC λv B=>v=e/\B=[p]):=by
 refine(BX h [p]).eY (bS.refl _) ?_;rintro(v|c|_) B h
 ·obtain⟨B',⟨rfl,rfl⟩,rfl⟩:=h;exact⟨_,⟨U,U⟩,bS.refl _⟩
 ·exact h.elim
 ·exact h.elim
def fu.add(d:fu)(l:Y Seen):fu×ae:=if l.any (λs=> !s.may)=aP then(d,80)else(l.foldl fu.take d,0)
theorem Rc(l:Y Seen)(i:ab)(h:i<l.length):(l.take (i+1)).foldl fu.take d=((l.take i).foldl fu.take d).take l[i]:=by
 grind [cg]
theorem tF:∀(l:Y Seen) (d:fu),d.ok->(∀s∈l,s.may=aP)->(l.foldl fu.take d).ok/\eZ (l.foldl fu.take d)<=eZ d+l.length
 |[],d,h,_=>⟨h,by simp⟩
 |s::r,d,h,hl=>by
  have h1:=tF r (d.take s) (h.take (hl s dW)) (λx hx=>hl x N0);have h2:=Ks h s;exact⟨h1.1,by rw[eD,bL];omega⟩
theorem Ag{b:bc}{O:de}{k:Kt}{E:Env}{H F:Y bG}{cc:ah (ar aW×Y aW)}{d:fu}[hf:FK H jc K d F](h:d.ok->X be b O cc k E H R):X be b O cc k E H R:=
 j9 λw hs=>by
  obtain⟨⟨M,fs⟩,h1⟩:=jB (hs.dE hf.out)
  obtain⟨⟨hp,eI⟩,h2⟩:=lR h1
  grind
theorem CA(hn:xs.length=n)(iP:eZ d+n<=1000000000):
 TR be G 138 #[bu K,.slice a n c] [jc K d,dp (cy Seen.cs) 8 a xs] (dC λv B=>v=.int .i64 (d.add xs).2/\B=[jc K (d.add xs).1]):=by
 refine bZ U λb O hb hG=>xS ?_
 refine Ag K λeI=>?_
 refine Kl a ?_
 refine xH (NR G a n c xs 211 [] [] (jc K d) (λs=> !s.may) (λx _=>bm6 (VJ G x) _) hn bw) ?_
 unfold fu.add
 refine xB ?_ ?_<;>intro h1
 ·rw[ao h1];exact xR
 ·rw[aj (by simp[h1])];have sK:∀s∈xs,s.may=aP:=by
   intro s hs;have:=(List.any_eq_false.1 h1) s hs;simpa using this
  refine xS ?_;refine fR [0,9] [0] (ι:={i:ab // i<=n}) (λi q_=>(10,bR n)::(11,bR i.1)::q_) (λi q_=>jc K ((xs.take i.1).foldl fu.take d)::q_) (λi=>n - i.1) ⟨0,bp _⟩ ?_;rintro⟨i,hi⟩ ih;dsimp only;refine xB ?_ ?_<;>intro h
  ·have hi:i<xs.length:=sH;refine xS ?_;refine dJ U U U U U hi hn λbl o=>?_;have hft:=Rc d xs i hi;have jv:xs[i]∈xs:=bE hi;generalize xs[i]=x at*;refine xS ?_;refine eT U U U U  ?_;refine xA ?_;intro b6;have hft2:=tF (xs.take i) d eI (λs hs=>sK s (List.mem_of_mem_take hs));have pZ:(xs.take i).length<=n:=by rw[dG];omega
   refine xH (TW G K ((xs.take i).foldl fu.take d) x (sK x jv) bw) ?_;rw[<-hft];exact bJ9
  ·have gj:i=n:=sH;subst gj;rw[bI bw];exact xR
def Gv(m:Seen):Y Seen->Seen
 |[]=>m
 |x::r=>Gv (if 0<K8 x m then x else m) r
def yb:Y Seen->Seen
 |[]=>.zero
 |x::r=>Gv x r
theorem Rf(hn:xs.length=n)(h0:0<n)(hs:n<=1000000000):
 TR be G 215 #[.slice a n c,.func (.func 216) #[] #[]] [dp (cy Seen.cs) 8 a xs] (dX (.agg (yb xs).cs.toArray)):=by
 refine bZ U λb O hb hG=>?_
 refine xA ?_
 intro b4
 refine El (by rw[show decide ((n:ae)<1)=aQ from by simp;omega];rfl) (xS ?_)
 have h00:0<xs.length:=bw
 refine dJ U U U U U h00 hn λbl o=>xS ?_
 refine eT U U U U  ?_
 refine xA ?_
 intro b5
 have e0:yb xs=Gv xs[0] (xs.drop 1):=by
  cases xs with
  |nil=>simp at h00
  |cons x r=>rfl
 refine fR [0,1,4,5] [1,0] (ι:={q:ab×Seen // 1<=q.1/\q.1<=n/\yb xs=Gv q.2 (xs.drop q.1)}) (λq q_=>(6,bR q.1.1)::q_) (λq q_=>bx b5 155 q.1.2.cs::q_) (λq=>n - q.1.1) ⟨(1,xs[0]),bz _,h0,e0⟩ ?_
 rintro⟨⟨i,m⟩,hi1,hi,hE⟩ ih
 dsimp only at hi1 hi hE ⊢
 refine xB ?_ ?_<;>intro h
 ·have hi:i<xs.length:=bQ;rw[bP hi,Gv]at hE;refine xS ?_;refine fG (sG [0,1,2,5]) [bx b5 155 m.cs] U ?_;refine xL [0,1,2,5] ?_;refine xS ?_;refine dJ U U U U U hi hn λbl o=>?_;generalize hx:xs[i]=x at*;refine xS ?_;refine eT U U U U (xS ?_);refine oN (fst:=[]) (us:=[iD x.cs.toArray,iD m.cs.toArray]) (cap:=[]) hG (Q8 G x m) U U U U  ?_;refine xB ?_ ?_<;>intro h2
  ·rw[ao bQ]at hE;refine xS ?_;have h2':i<xs.length:=hi;refine dJ U U U U U h2' hn λY' o2=>?_;rw[hx];refine xS ?_;refine eT U U U U (xS ?_);exact X.W (ih ⟨(i+1,x),by omega,by omega,hE⟩ bQ)
  ·rw[aj bQ]at hE;refine xS ?_;exact X.W (ih ⟨(i+1,m),by omega,by omega,hE⟩ bQ)
 ·have gj:i=n:=bQ;subst gj;rw[cx bw,Gv]at hE;refine xS ?_;exact cT hb (.jf U U .nil) ⟨by rw[hE];rfl,U⟩
def ng(l:Y Seen):az:=l.foldl (λm s=>if m.toNat<s.fQ.toNat then s.fQ else m) 0
def nh(l:Y Seen):Y Seen:=l.filter λs=>s.fQ==ng l
def DB:Y Seen->ai
 |[]=>aP
 |x::r=>r.all λs=>s.place==x.place&&s.kind==x.kind
def tG(l:Y Seen):ai:= !DB (nh l)&& !(nh l).all (·.open_)
def A5(m:az)(s:Seen):az:=if m.toNat<s.fQ.toNat then s.fQ else m
theorem N1(m:az)(s:Seen):(if(m.toNat:ae)<(s.fQ.toNat:ae)then(s.fQ.toNat:ae)else(m.toNat:ae))=((A5 m s).toNat:ae):=by
 grind [A5]
theorem ac6(l:Y Seen):ng l=l.foldl A5 0:=rfl
theorem uQ{O:Type}(f:O->α->O)(b:O)(l:Y α)(i:ab)(h:i<l.length):(l.take (i+1)).foldl f b=f ((l.take i).foldl f b) l[i]:=by
 grind [cg]
theorem s6(p:α->ai)(l:Y α)(i:ab)(h:i<l.length):(l.take (i+1)).filter p=if p l[i]then(l.take i).filter p++[l[i]]else(l.take i).filter p:=by
 grind [cg]
theorem Rg{r r':Y Seen}{s x0:Seen}(h:r++[s]=x0::r'):DB (x0::r')=(DB r&&(s.place==x0.place&&s.kind==x0.kind)):=by
 cases r<;>grind [DB]
theorem yd:((((p.sE.toNat:ae)==q.sE.toNat)&&((p.at_==q.at_)&&(p.len==q.len))))=(p==q):=by
 obtain⟨p1,p2,p3⟩:=p
 obtain⟨r1,r2,r3⟩:=q
 grind [fk]
def bW0(K:ab)(d:fu)(l:Y Seen)(v:aR)(B:Y bG):Prop:=∃a c,v=.tuple #[.slice a (nh l).length c,.bool (tG l)]/\B=[own 155 8 a (nh l).length c ((nh l).flatMap Seen.cs),jc K d]
def bK0(K M:ab)(fs:uc)(l:Y Seen)(v:aR)(B:Y bG):Prop:=∃a c,v=.tuple #[.slice a (nh l).length c,.bool (tG l)]/\B=[own 155 8 a (nh l).length c ((nh l).flatMap Seen.cs),bx K 234 [.map (aN M)],dZ (fs.map kA)]
theorem Jo(M:ab)(fs:uc)(d:fu)(hp:(Ip fs).Perm d)(eI:d.ok)(j7:(fs.map (·.1)).Nodup)(key:Bs)(iP:eZ d<=1000000000):
 TR be G 214 #[bu K,bn key] [rmp bn M (kJ fs),bx K 234 [.map (aN M)],dZ (fs.map kA)] (dC (bK0 K M fs (mi d key))):=by
 refine bZ U λb O hb hG=>xS ?_
 refine Yr key U U U U ?_
 rw[Cw]
 have hg:mi d key=(oK fs key).2:=bJ7
 have VQ:=ud d key eI.nd
 refine Em fs key j7 ?_
 generalize hE:oK fs key=e at*
 obtain⟨⟨a,c⟩,l⟩:=e
 dsimp only[yD]at hg ⊢
 rw[hg]at VQ ⊢
 refine xS ?_
 refine fR [0,1,4,5,18] [] (ι:={i:ab // i<=l.length}) (λi q_=>(6,.int .u64 ((l.take i.1).foldl A5 0).toNat)::(19,bR l.length)::(20,bR i.1)::q_) (λi q_=>q_) (λi=>l.length - i.1) ⟨0,bp _⟩ ?_
 rintro⟨i,hi⟩ ih
 dsimp only
 refine xB ?_ ?_<;>intro h
 ·have hi:i<l.length:=bQ;have kl:=uQ A5 0 l i hi;refine xS ?_;refine gZ a bw λbl zX=>?_;subst zX;refine eA U U U U U hi (xS ?_);refine ja (cC:=Seen.cs) (l:=l) i U U U U (λ_=>rfl) dW hi  ?_;refine xA ?_;intro b8;rw[N1,<-kl];exact TY
 ·have gj:i=l.length:=bQ;subst gj;rw[bV,<-ac6];clear ih;refine xS ?_;refine Yr key U U U U ?_;rw[Cw,hE];dsimp only[yD];refine xS ?_;refine X.dE (fh 155 8 _) ?_;refine X.loop (ι:={q:ab×ah aX×ab // q.1<=l.length/\(q.1=0->q.2=(aO,0))}) (λq=>([(0,bu K),(1,bn key),(4,.slice q.1.2.1 ((l.take q.1.1).filter λs=>s.fQ==ng l).length q.1.2.2),(5,.bool aQ),(6,.int .u64 (ng l).toNat),(9,.bool (DB ((l.take q.1.1).filter λs=>s.fQ==ng l))),(10,.bool (((l.take q.1.1).filter λs=>s.fQ==ng l).all (·.open_))),(34,.slice a l.length c),(35,bR l.length),(36,bR q.1.1)],
   [own 155 8 q.1.2.1 ((l.take q.1.1).filter λs=>s.fQ==ng l).length q.1.2.2 (((l.take q.1.1).filter λs=>s.fQ==ng l).flatMap Seen.cs),own 155 8 a l.length c (l.flatMap Seen.cs),dZ ((kT fs key).map kA),bx K 234 [.map (aN M)],rmp bn M (kJ fs)])) (λq=>l.length - q.1.1) ⟨(0,aO,0),bp _,λ_=>rfl⟩ (Sub.of U) (show bS _ [own 155 8 aO 0 0 [],own 155 8 a l.length c (l.flatMap Seen.cs),dZ ((kT fs key).map kA),bx K 234 [.map (aN M)],rmp bn M (kJ fs)]from bA) ?_
  rintro⟨⟨i,a2,c2⟩,hi,_⟩ ih;dsimp only at hi ⊢;have N2:((l.take i).filter λs=>s.fQ==ng l).length<=l.length:=bQ;refine xB ?_ ?_<;>intro h
  ·have hi:i<l.length:=bQ;have kl:=s6 (λs=>s.fQ==ng l) l i hi;generalize hr:(l.take i).filter (λs=>s.fQ==ng l)=r at*;generalize ng l=top at*;refine xS ?_;refine gZ a bw λbl zX=>?_;subst zX;refine eA U U U U U hi (xS ?_);refine ja (cC:=Seen.cs) (l:=l) i U U U U (λ_=>rfl) dW hi ?_;generalize l[i]=s at*;refine xA ?_;intro Dn;refine xB ?_ ?_<;>intro h2
   ·have h2:s.fQ=top:=by grind [iX]
    rw[ao Cc]at kl;refine xZ ?_;intro Ic;refine fH (s) U U U U bw U cE cE cE cE cE bw λa8 c8=>?_;obtain⟨x0,r',hx⟩:∃x0 r',r++[s]=x0::r':=by cases r<;>exact⟨_,_,U⟩
    have kN:=Rg hx;have uB:(x0::r').all (·.open_)=(r.all (·.open_)&&s.open_):=bQ;rw[hx]at kl ⊢;refine gZ a8 dW λbl8 h8=>?_;subst h8;refine xS ?_;refine iK (ι:={o:ai // o=DB (x0::r')}) (λo=>([(0,bu K),(1,bn key),(4,.slice (aN ⟨bl8,0,aO⟩) (x0::r').length c8),(5,.bool aQ),(6,.int .u64 top.toNat),(9,.bool o.1),(10,.bool (r.all (·.open_))),(12,bu Dn),(34,.slice (aN ⟨bl,0,aO⟩) l.length c),(35,bR l.length),(36,bR i)],
     [own 155 8 (aN ⟨bl8,0,aO⟩) (x0::r').length c8 ((x0::r').flatMap Seen.cs),bx Dn 155 s.cs,own 155 8 (aN ⟨bl,0,aO⟩) l.length c (l.flatMap Seen.cs),dZ ((kT fs key).map kA),bx K 234 [.map (aN M)],rmp bn M (kJ fs)])) (λo=>?_) (λK1 fin=>?_)
    ·obtain⟨o,ho⟩:=o;dsimp only;subst ho;generalize r.all (·.open_)=kn at*;cases kn
     ·exact a92
     ·exact a92
    ·generalize DB r=on at*;cases on
     ·refine fU 20 [1,0] ?_;refine xL [0,1,2,3,4,5,6,7,8,9,10,11,12,13,14,15,16,17,18,19] ?_;refine xS ?_;exact X.W (fin ⟨aQ,by rw[kN];rfl⟩)
     ·rw[Bool.true_and]at kN;by_cases tJ:s.place=x0.place
      ·have hpe:=(yd s.place x0.place).trans (by simpa using tJ:(s.place==x0.place)=aP);rw[tJ,beq_self_eq_true,Bool.true_and]at kN;refine fU 20 [1,0] ?_;apply dB [0,1,2,3,4,5,6,7,8,9,10,11,12,13,14,15,16,17,18,19] U U U
       ·intro p hp;refine xS ?_;refine eA (j:=0) U U U U U dW (xS ?_);refine PM (l:=x0.place.cs) U U U U U (xS ?_);refine bD 58 aP U hpe (xS ?_);refine eA (j:=0) U U U U U dW (xS ?_);refine X.jK (v:=.int .i64 x0.kind) U U U U (xS ?_);exact hp
       ·rfl
       ·rfl
       refine xS ?_;exact X.W (fin ⟨s.kind==x0.kind,kN.symm⟩)
      ·have hpe:=(yd s.place x0.place).trans (by simpa using tJ:(s.place==x0.place)=aQ);rw[show(s.place==x0.place)=aQ from by grind,Bool.false_and]at kN;refine fU 20 [1,0] ?_;apply dB [0,1,2,3,4,5,6,7,8,9,10,11,12,13,14,15,16,17,18,19] U U U
       ·intro p hp;refine xS ?_;refine eA (j:=0) U U U U U dW (xS ?_);refine PM (l:=x0.place.cs) U U U U U (xS ?_);refine bD 58 aQ U hpe (xS ?_);exact hp
       ·rfl
       ·rfl
       refine xS ?_;exact X.W (fin ⟨aQ,kN.symm⟩)
   ·have h2:¬s.fQ=top:=bQ;rw[aj Cc]at kl;refine xS ?_;refine X.less (ih ⟨(i+1,a2,c2),by omega,by simp⟩ bQ) ?_ ?_
    ·dsimp only;rw[kl];exact bK1
    ·exact a19
  ·have gj:i=l.length:=bQ;subst gj;rw[bV];clear ih;have cD:∀(v:ai),v=tG l->dC (bK0 K M fs l) (.returned (mv [.slice a2 (nh l).length c2,.bool v])) [own 155 8 a2 (nh l).length c2 ((nh l).flatMap Seen.cs),bx K 234 [.map (aN M)],dZ (fs.map kA)]:=λv hv=>⟨a2,c2,by rw[hv];rfl,U⟩;unfold tG at cD;rw[show(l.filter λs=>s.fQ==ng l)=nh l from rfl];generalize nh l=r at*;generalize r.all (·.open_)=kn at*;generalize DB r=on at*;refine Ae fs key j7 hE ?_;cases on
   ·exact a94
   ·exact a94
instance(x:Bs×Cv):Qk (kA x):=⟨λr o h=>(ax:Qk (own 155 8 x.2.1.1 x.2.2.length x.2.1.2 (x.2.2.flatMap Seen.cs))).out r o h⟩
theorem ED{L:Y bG}(h:tS L):Qk (dZ L):=⟨λ_ _ hs=>tS.pq h hs⟩
instance(fs:uc):Qk (dZ (fs.map kA)):=ED ⟨λp hp=>by obtain⟨x,_,rfl⟩:=cu.1 hp;infer_instance⟩
theorem VU(key:Bs)(iP:eZ d<=1000000000):TR be G 214 #[bu K,bn key] [jc K d] (dC (bW0 K d (mi d key))):=by
 intro O w hG hs;obtain⟨⟨M,fs⟩,h1⟩:=jB hs;obtain⟨⟨hp,eI⟩,h2⟩:=lR h1;have j7:(fs.map (·.1)).Nodup:=by
  have:=((hp.map (·.1)).nodup_iff.2 eI.nd)
  rwa [Gp]at this
 obtain⟨x,hx,h3⟩:=Sat.map (h2.dE (eo _ _ _));have hT:=Ms (Jo G K M fs d hp eI j7 key iP) bK2 hx;refine(hT O w hG h3).mono ?_;rintro e w' ⟨B,hB,Ao⟩;cases e with
 |panicked ch=>exact hB.elim
 |outgrown=>exact hB.elim
 |returned v=>
  obtain⟨B',⟨a,c,rfl,rfl⟩,rfl⟩:=hB;refine⟨_,⟨a,c,U,U⟩,?_⟩;have h4:=om (cC:=bn) (M:=kJ fs) Ao hx;refine h4.dE ?_;refine bS.trans (bS.es (A:=[bx K 234 [.map (aN M)],mp bn M (kJ fs),dZ (fs.map kA)])) ?_;refine(aG0 hp eI _).trans ?_;exact eo _ _ _
def vH(p q:Place):ai:=decide (uH p q<0)
def wI(l:Y Place):Y Place:=l.mergeSort λx y=> !vH y x
theorem N3:vH p q=aP↔p.sE.toNat<q.sE.toNat\/(p.sE.toNat=q.sE.toNat/\(p.at_<q.at_\/(p.at_=q.at_/\p.len<q.len))):=by
 grind [oJ,Xy,vH,uH]
theorem zt:vH p q=aQ↔¬(p.sE.toNat<q.sE.toNat\/(p.sE.toNat=q.sE.toNat/\(p.at_<q.at_\/(p.at_=q.at_/\p.len<q.len)))):=by
 grind [N3]
theorem DC:vH p p=aQ:=by grind [zt]
theorem Gw(r:Place):vH p q=aP->vH q r=aP->vH p r=aP:=by grind [N3]
theorem DE(r:Place):vH p q=aQ->vH q r=aQ->vH p r=aQ:=by grind [zt]
theorem Gx:vH p q=aQ->vH q p=aQ->p=q:=by
 simp only[zt]
 intro h1 h2
 obtain⟨a,b,c⟩:=p
 obtain⟨d,e,f⟩:=q
 grind [fk]
theorem Jp(l:Y Place):(wI l).length=l.length:=List.length_mergeSort _
theorem Gy(l:Y Place):(wI l).Perm l:=List.mergeSort_perm _ _
theorem A6(l:Y Place):(wI l).Pairwise λx y=>vH y x=aQ:=by
 have:=List.pairwise_mergeSort (le:=λx y=> !vH y x) (λa b c h1 h2=>by
  simp only[Bool.not_eq_true']at h1 h2 ⊢;exact DE _ _ _ h2 h1) (λa b=>by
  cases h:vH b a
  ·simp
  ·cases h2:vH a b
   ·simp
   ·have:=Gw _ _ _ h h2;rw[DC]at this;cases this) l
 exact this.imp bQ
theorem ac7{l m:Y Place}(h:l.Perm m):wI l=wI m:=
 tC (r:=λx y=>vH y x=aQ) (λa b h1 h2=>(Gx _ _ h2 h1)) ((Gy l).trans (h.trans (Gy m).symm)) (A6 l) (A6 m)
theorem VV(xs:Y Place)(hn:xs.length=n)(hs:n<=1000000000000):
 TR be G 452 #[.slice a n c,.func (.func 321) #[] #[]] [own 153 3 a n c (xs.flatMap Place.cs)] (dC λv B=>v=.tuple #[]/\B=[own 153 3 a n c ((wI xs).flatMap Place.cs)]):=
 haveI:Inhabited Place:=⟨⟨0,0,0⟩⟩
 haveI:TA be (lA.t 24) aP:=(ax:TA be 153 aP)
 haveI:jH be (lA.t 24) 3:=(ax:jH be 153 3)
 NQ (ρ:=lA) D3 153 3 Place.cs (λ_=>rfl) (λ_=>rfl) eK uH ⟨DC,Gw,DE⟩ Gx 321 (λx y=>Ft GT x y) a n c xs hn hs
theorem Rh(f:ab)[CF be f](cap:Y aR)(A:Y bG)(pok fok:Y Place->Prop)(hit:Dq be G f cap A (λk:Place=>[Place.v k]) pok fok)(hl:∀p,pok p->p.length<=1000000000000)(hf:∀p,fok p->p.length<=1000000000000):
 TR be G 379 #[.func (.func f) #[] cap.toArray,.func (.func 321) #[] #[]] [dZ A] (dC λv B=>∃ys,fok ys/\∃a c,v=.slice a (wI ys).length c/\B=[own 153 3 a (wI ys).length c ((wI ys).flatMap Place.cs),dZ A]):=by
 refine bZ U λb O hb hG=>xS ?_
 refine cP (NO G f cap A pok fok hit hl) ?_
 rintro v B ⟨ys,AD,a,c,rfl,rfl⟩
 refine xD ?_
 refine xH (VV G a ys.length c ys U (hf ys AD)) ?_
 rw[<-Jp ys]
 refine xS ?_
 exact cT hb (.tmps U) ⟨ys,AD,a,c,U,U⟩
theorem Jq(l:Bs)(hn:l.length=n)(h0:a=aO->n=0/\c=0)(hs:n<=1000000000000):
 TR be G 174 #[.slice a n c] [dp RB 1 a l] (dC λv B=>∃a' c',(l.length<=c'/\(a'=aO->l.length=0/\c'=0))/\v=.slice a' l.length c'/\B=[dp RB 1 a' l]):=by
 subst hn
 refine dH U λb O hb hG=>?_
 refine xB ?_ ?_<;>intro h
 ·obtain rfl:a=aO:=Ca;obtain⟨h1,rfl⟩:=h0 U;obtain rfl:l=[]:=List.length_eq_zero_iff.1 h1;refine xS ?_;exact cT hb (.tmps U) ⟨aO,0,by simp,U,U⟩
 ·refine xS ?_;refine PZ U U λbl=>xS ?_;refine Kp (cC:=λx:au=>[gT x]) U U U U U U (λ_=>rfl) (λ_=>rfl) U bw λa2 c2=>xS ?_;rw[bT,bk,<-lP];refine nX a2 λh1 h2=>?_;refine jz a2 (l:=l) U λ_=>?_;exact cT hb (.tmps U) ⟨a2,c2,⟨h2,h1⟩,U,U⟩
def leF(x y:ca):ai:= !decide (dY y.name x.name<0)
def qX(l:Y ca):Y ca:=l.mergeSort leF
def DF(q:Y (WB ca)):Y (WB ca):=q.mergeSort λx y=>leF x.1 y.1
theorem VW(q:Y (WB ca)):(DF q).map (·.1)=qX (q.map (·.1)):=List.map_mergeSort λ_ _ _ _=>rfl
theorem VX(q:Y (WB ca)):(DF q).length=q.length:=List.length_mergeSort _
theorem aG1(x y:WB ca):TR be G 286 #[.agg (bY x).toArray,.agg (bY y).toArray] [] (dX (.int .i64 (dY x.1.name y.1.name))):=ac8
theorem A7:∀x y:Bs,dY x y<0↔x<y
 |[],[]=>by simp[dY]
 |[],_::_=>by simp[dY]
 |_::_,[]=>by simp[dY]
 |a::r,b::bs=>by
  rw[List.cons_lt_cons_iff,<-A7 r bs];have e:dY (a::r) (b::bs)=if a<b then -1 else if b<a then 1 else dY r bs:=U;rw[e];split
  ·rename_i h;simp[h]
  ·rename_i h;split
   ·rename_i h2;have:a≠b:=λh3=>by subst h3;exact h h2
    simp[h,this]
   ·rename_i h2;have:a=b:=by
     apply UInt8.toNat_inj.1;have h3:¬a.toNat<b.toNat:=h;have h4:¬b.toNat<a.toNat:=h2;omega
    simp[this]
theorem ac9(ys:Y (WB ca))(hinj:∀x∈ys,∀y∈ys,x.1.name=y.1.name->x=y)(d:{x // x∈ys})(xs:Y {x // x∈ys})(a:ah aX)(c:ab)(hs:xs.length<=1000000000000):
 TR be G 285 #[.slice a xs.length c,.func (.func 286) #[] #[]] [own 70 2 a xs.length c ((xs.map (·.1)).flatMap bY)] (dC λv B=>v=.tuple #[]/\B=[own 70 2 a xs.length c ((DF (xs.map (·.1))).flatMap bY)]):=by
 haveI:Inhabited {x // x∈ys}:=⟨d⟩
 haveI:TA be (lB.t 24) aP:=(ax:TA be 70 aP)
 haveI:jH be (lB.t 24) 2:=(ax:jH be 70 2)
 have key:=NQ (ρ:=lB) (G:=G) DX (α:={x // x∈ys}) 70 2 (λx=>bY x.1) (λ_=>rfl) (λ_=>rfl) eK (λx y=>dY x.1.1.name y.1.1.name)
  ⟨λx=>by grind [ltOf,A7],λx y z h1 h2=>by
   grind [ltOf,A7],λx y z h1 h2=>by
   grind [ltOf,A7]⟩
  (λx y h1 h2=>by
   grind [ltOf,A7]) 286 (λx y=>aG1 GT x.1 y.1) a xs.length c xs U hs
 have e1:(xs.map (·.1)).flatMap bY=xs.flatMap λx=>bY x.1:=by rw[List.flatMap_map]
 have e2:(DF (xs.map (·.1))).flatMap bY=(xs.mergeSort λx y=> !(ltOf λx y:{x // x∈ys}=>dY x.1.1.name y.1.1.name) y x).flatMap λx=>bY x.1:=by
  have:DF (xs.map (·.1))=(xs.mergeSort λx y=> !(ltOf λx y:{x // x∈ys}=>dY x.1.1.name y.1.1.name) y x).map (·.1):=(List.map_mergeSort (f:=λx:{x // x∈ys}=>x.1) λ_ _ _ _=>rfl).symm;rw[this,List.flatMap_map]
 rw[e1,e2]
 exact key
theorem VY(xs:Y (WB ca))(hn:xs.length=n)(hs:n<=1000000000000)(hd:(xs.map (·.1.name)).Nodup):
 TR be G 285 #[.slice a n c,.func (.func 286) #[] #[]] [own 70 2 a n c (xs.flatMap bY)] (dC λv B=>v=.tuple #[]/\B=[own 70 2 a n c ((DF xs).flatMap bY)]):=by
 subst hn
 cases xs with
 |nil=>
  have:=ac9 G [((⟨[],[]⟩,aO,0):WB ca)] (λx hx y hy _=>by grind) ⟨_,cK.2 U⟩ [] a c dW;exact this
 |cons x0 r=>
  have:=ac9 G (x0::r) (λx hx y hy h=>by
   grind [List.mem_iff_getElem,List.pairwise_iff_getElem]) ⟨x0,List.mem_cons_self ..⟩ (x0::r).attach a c bQ
  grind [List.attach_map_subtype_val]
end
section
variable{cc:ah (ar aW×Y aW)}{l l':Y ca}{R:aZ->Y bG->Prop}{s:fY}{α:Type}{H:Y bG}{L:ab}{op:ae}{nm:Bs}{E:Env}{P:aT}{O:de}{k:Kt}(b:Bs)(G:dA)(M:ab)(a:ah aX)(n c:ab)(q:Y (WB ca))
theorem Gz(l m:Y ca):cq (l++m)=cq l+cq m:=NG
theorem Lb(l:Y ca)(i:ab):cq (l.eraseIdx i)<=cq l:=by
 rw[List.eraseIdx_eq_take_drop_succ,Gz];have h:cq l=cq (l.take i)+cq (l.drop i):=bK3;have h2:cq (l.drop i)=cq ((l.drop i).take 1)+cq ((l.drop i).drop 1):=bK3;simp_all
theorem Ri(l:Y ca)(i:ab)(f:ca)(h:f.data.length<=(tE l i).data.length):cq (l.set i f)<=cq l:=by
 grind [bP,dV,List.set_eq_take_append_cons_drop,tE,cq]
theorem VZ{i:ab}(h:wH op l i s=aN l'):cq l'<=cq l+s.data.length/\l'.length<=l.length+1:=by
 grind [wH,Lb,wD,zr,Ri]
theorem s7{l l':Y ca}{s:fY}(h:ke l s=aN l'):cq l'<=cq l+s.data.length/\l'.length<=l.length+1:=by
 unfold ke at h;split at h
 ·cases h
 ·split at h
  ·cases h
  ·exact VZ h
theorem Jr:¬0<=jI l nm↔nm∉l.map (·.name):=by
 have key:∀(l:Y ca) (k:ab),¬0<=dM (λf:ca=>f.name==nm) k l↔nm∉l.map (·.name):=by
  intro l;induction l<;>grind [dM]
 exact key l 0
theorem GA(h:0<=jI l nm):l[(jI l nm).toNat]?.map (·.name)=aN nm:=by
 grind [sb,wE,jI]
theorem Rj{i:ab}(hi:op≠2->i<l.length/\(tE l i).name=s.name)(hw:op=2->s.name∉l.map (·.name))(hd:(l.map (·.name)).Nodup)(h:wH op l i s=aN l'):(l'.map (·.name)).Nodup:=by
 unfold wH at h
 split at h
 ·grind
 ·split at h
  ·grind
  ·rename_i vm
   split at h
   ·grind
   ·obtain⟨hi1,Ds⟩:=hi vm
    split at h
    ·split at h
     ·cases h
     ·split at h
      ·grind
      ·rename_i mf
       cases h
       unfold zr
       split
       ·rename_i hk;have PF:=sb hk;have hkn:=GA hk;rw[bX PF]at hkn;have hkn:l[(jI l s.vG).toNat].name=s.vG:=bQ;generalize(jI l s.vG).toNat=k at*;have hki:k≠i:=by
         grind [tE]
        rw[map_eraseIdx,fL];rw[List.Nodup,List.pairwise_iff_getElem]at hd ⊢;intro a b ha hb hab;have mf:∀x y (hx:x<(l.map (·.name)).length) (hy:y<(l.map (·.name)).length),x≠y->(l.map (·.name))[x]≠(l.map (·.name))[y]:=by
         grind
        rw[List.length_eraseIdx_of_lt bQ]at ha hb;simp only[fJ,bF]at ha hb;have hto:∀x (hx:x<(l.map (·.name)).length),x≠k->(l.map (·.name))[x]≠s.vG:=by
         grind
        rw[List.getElem_eraseIdx,List.getElem_eraseIdx];have gen:∀x y (hx:x<((l.map (·.name)).set i s.vG).length) (hy:y<((l.map (·.name)).set i s.vG).length),x≠y->x≠k->y≠k->((l.map (·.name)).set i s.vG)[x]≠((l.map (·.name)).set i s.vG)[y]:=by
         grind
        split<;>split<;>exact gen _ _ _ _ bw bw bw
       grind [Jr,fL]
    grind [fL,tE]
theorem Lc(hd:(l.map (·.name)).Nodup)(h:ke l s=aN l'):(l'.map (·.name)).Nodup:=by
 grind [ke,Rj,GA,tE,Jr]
def wJ:Y ca->Y fY->ah (Y ca)
 |l,[]=>aN l
 |l,s::r=>match ke l s with
  |none=>aO
  |some l'=>wJ l' r
def rv(l:Y ca)(ss:Y fY):ah (Y ca):=if mY l=aP then(wJ l ss).map qX else aO
def jN(ss:Y fY):ab:=(ss.map λs=>s.data.length).sum
def EE:Y ca->ab->Y fY->ab
 |_,m,[]=>m
 |l,m,s::r=>EE ((ke l s).getD l) (max m (cq ((ke l s).getD l))) r
def uR(l:Y ca)(ss:Y fY):ab:=EE l (cq l) ss
theorem Ld(s:fY)(r:Y fY):jN (s::r)=s.data.length+jN r:=by simp[jN]
theorem oD{γ:Type}(f:α->γ)(l:Y α)(i:ab)(h:i<l.length):(l.map f).drop i=f l[i]::(l.map f).drop (i+1):=by
 grind [bP]
theorem N4(h:l.Perm l'):cq l=cq l':=by
 grind [cq]
theorem zu(l:Y ca):(qX l).Perm l:=List.mergeSort_perm l leF
theorem oX(l:Y ca):cq (qX l)=cq l:=N4 (zu l)
theorem Js(hn:q.length=n)(a2:ah aX)(m c2:ab)(ss:Y (WB fY))(hm:ss.length=m)(h0:a=aO->n=0/\c=0)(hs:n+m<=1000000000000)(hu:cq (q.map (·.1))<=1000000000000)(hu2:∀l,rv (q.map (·.1)) (ss.map (·.1))=aN l->cq l<=1000000000000):
 TR be G 178 #[.slice a n c,.slice a2 m c2] [dp (cy bY) 2 a q,eQ ca.data q,dp (cy eG) 5 a2 ss,eQ fY.data ss]
  (dC λv B=>match rv (q.map (·.1)) (ss.map (·.1))with
   |none=>v=.tuple #[.slice aO 0 0,.int .i64 110]/\B=[]
   |some l=>∃a3 c3,∃q':Y (WB ca),q'.map (·.1)=l/\v=.tuple #[.slice a3 q'.length c3,.int .i64 0]/\B=[own 70 2 a3 q'.length c3 (q'.flatMap bY),eQ ca.data q']):=by
 subst hn hm
 refine bZ U λb O hb hG=>?_
 generalize cD:rv (q.map (·.1)) (ss.map (·.1))=res at*
 unfold rv at cD
 refine xJ (TO G a _ c q U bw bw) ?_
 cases sK:mY (q.map (·.1))with
 |false=>
  rw[aj (by simp[sK])]at cD;subst cD;refine X.loop (ι:=aA) (λ_=>([(1,.slice a2 ss.length c2),(7,.bool aQ),(8,bR 0)],[])) (λ_=>0) () (Sub.of U) (bS.nil _) λ_ _=>?_;dsimp only;refine xT 19 ?_ ?_<;>intro h;all_goals
   exact xR
 |true=>
 rw[ao sK]at cD
 have hnd0:((q.map (·.1)).map (·.name)).Nodup:=by
  grind [mY]
 refine X.loop (ι:={z:ab×ah aX×ab×Y (WB ca) // z.1<=ss.length/\(z.2.1=aO->z.2.2.2.length=0/\z.2.2.1=0)/\z.2.2.2.length<=q.length+z.1/\mY (q.map (·.1))=aP/\(wJ (z.2.2.2.map (·.1)) ((ss.map (·.1)).drop z.1)).map qX=res/\((z.2.2.2.map (·.1)).map (·.name)).Nodup} ⊕ {z:ab×aR // z.1<=ss.length/\res=aO})
  (λz=>match z with
   |.inl z=>([(1,.slice a2 ss.length c2),(6,.slice z.1.2.1 z.1.2.2.2.length z.1.2.2.1),(7,.bool aP),(8,bR z.1.1)],[dp (cy bY) 2 z.1.2.1 z.1.2.2.2,eQ ca.data z.1.2.2.2,dp (cy eG) 5 a2 ss,eQ fY.data ss])
   |.inr z=>([(1,.slice a2 ss.length c2),(6,z.1.2),(7,.bool aQ),(8,bR z.1.1)],[])) (λz=>match z with|.inl z=>ss.length - z.1.1+1|.inr _=>0)
  (.inl ⟨(0,a,c,q),bp _,h0,by simp,sK,by grind,hnd0⟩) (Sub.of U) bA ?_
 clear cD
 rintro(⟨⟨i,a6,c6,q6⟩,hi,h06,hl6,sK,CB,hd6⟩|⟨⟨i,v6⟩,hi,CB⟩) ih
 ·dsimp only at hi h06 hl6 CB hd6 ⊢;refine xT 19 ?_ ?_<;>intro h
  ·have hi:i<ss.length:=bQ;rw[oD _ _ _ hi]at CB;have hrx:=λl'=>@s7 (q6.map (·.1)) l' ss[i].1;have jv:=bE hi;have ZG:∀x∈[ss[i]],x∈ss:=bQ;refine xS ?_;refine dJ U U U U U hi U λbl o=>?_;generalize ss[i]=x at*;refine xS ?_;refine eT U U U U (xS ?_);refine qW (data:=fY.data) ss [x] ZG ?_;refine cP (Gl G a6 _ c6 q6 U bw h06 x) ?_;intro v B hq;unfold wJ at CB;cases PH:ke (q6.map (·.1)) x.1 with
   |none=>
    rw[PH]at hq CB;obtain⟨u,rfl,rfl⟩:=hq;refine xD ?_;refine X.W (ih (.inr ⟨(i+1,u),by omega,CB.symm⟩) bQ)
   |some l=>
    rw[PH]at hq CB;obtain⟨h7,h8⟩:=hrx l PH;obtain⟨a7,c7,q7,rfl,rfl,rfl⟩:=hq;rw[bF,bF]at h8;refine xD ?_;refine nX a7 λh9 PA=>?_;refine dR a7 bY q7 U U (λ_=>rfl) λ_=>?_;refine X.W (ih (.inl ⟨(i+1,a7,c7,q7),by omega,h9,by grind,sK,CB,Lc hd6 PH⟩) bQ)
  ·have gj:i=ss.length:=bQ;subst gj;rw[cx dW]at CB;have CB:aN (qX (q6.map (·.1)))=res:=CB;subst CB;have hq6:q6.length<=1000000000000:=bw;have hb6:cq (q6.map (·.1))<=1000000000000:=by grind [oX]
   clear hu2;refine xS ?_;refine X.dE (fh 70 2 _) ?_;refine S3 ca.data ?_;refine X.loop (ι:={z:ab×ah aX×ab×Y (WB ca) // z.1<=q6.length/\z.2.2.2.map (·.1)=(q6.map (·.1)).take z.1})
    (λz=>([(9,.slice z.1.2.1 z.1.2.2.2.length z.1.2.2.1),(35,.slice a6 q6.length c6),(36,bR q6.length),(37,bR z.1.1)],[own 70 2 z.1.2.1 z.1.2.2.2.length z.1.2.2.1 (z.1.2.2.2.flatMap bY),eQ ca.data z.1.2.2.2,dp (cy bY) 2 a6 q6,eQ ca.data q6])) (λz=>q6.length - z.1.1)
    ⟨(0,aO,0,[]),bp _,U⟩ (Sub.of U) (show bS _ [own 70 2 aO 0 0 [],eQ ca.data [],dp (cy bY) 2 a6 q6,eQ ca.data q6]from bA) ?_
   rintro⟨⟨i,a9,c9,q9⟩,hi,hq9⟩ rb;dsimp only at hi hq9 ⊢;have hl9:q9.length<=q6.length:=by
    have:=aH eP hq9;simp at this;omega
   refine xB ?_ ?_<;>intro h2
   ·have hi:i<q6.length:=bQ;have xz:(q6.map (·.1)).take (i+1)=(q6.map (·.1)).take i++[q6[i].1]:=QY;have hbx:q6[i].1.data.length<=1000000000000:=by
     grind [qA,ub]
    rw[<-hq9]at xz;refine nH (data:=ca.data) q6 q6[i] (bE hi) λjT mX=>xS ?_;refine dJ U U U U U hi U λbl o=>?_;generalize q6[i]=x at*;refine xS ?_;refine eT U U U U  ?_;refine xA ?_;intro yP;refine fU 5 [0] ?_;refine xL [0,1,2,3,4] ?_;refine xS ?_;refine cP (Jq G x.2.1 _ x.2.2 x.1.data U mX hbx) ?_;rintro v B ⟨a8,c8,⟨h5,h6⟩,rfl,rfl⟩;refine xD ?_;refine xZ ?_;intro tu;refine fH (((x.1,a8,c8):WB ca)) U U U U bw U cE cE cE cE cE bw λa7 c7=>xS ?_;refine SY (data:=ca.data) q9 ((x.1,a8,c8):WB ca) h5 h6 ?_;refine qW (data:=ca.data) ((x.1,a8,c8)::q9) (q9++[((x.1,a8,c8):WB ca)]) (λy hy=>by
     grind) ?_
    refine X.W (rb ⟨(i+1,a7,c7,q9++[((x.1,a8,c8):WB ca)]),by omega,by grind⟩ bQ)
   ·have gj:i=q6.length:=bQ;subst gj;rw[bI dW]at hq9;rw[<-hq9]at hd6 ⊢;refine xH (VY G a9 _ c9 q9 U bw bQ) ?_;rw[<-VX q9];refine xS ?_;refine qW (data:=ca.data) q9 (DF q9) (λx hx=>(List.mergeSort_perm _ _).mem_iff.1 hx) ?_;exact cT hb (.tmps U) ⟨a9,c9,DF q9,VW q9,U,U⟩
 ·subst CB;dsimp only at hi ⊢;refine xT 19 ?_ ?_<;>intro h;all_goals
   exact xR
theorem GB(hn:q.length=n)(a2:ah aX)(m c2:ab)(ss:Y (WB fY))(hm:ss.length=m)(h0:a=aO->n=0/\c=0)(hs:n+m<=1000000000000)(hu:cq (q.map (·.1))+jN (ss.map (·.1))<=1000000000000000000):
 TR be G 220 #[.slice a n c,.slice a2 m c2] [dp (cy bY) 2 a q,eQ ca.data q,dp (cy eG) 5 a2 ss,eQ fY.data ss] (dX (bR (uR (q.map (·.1)) (ss.map (·.1))))):=by
 subst hn hm
 refine bZ U λb O hb hG=>?_
 generalize cD:uR (q.map (·.1)) (ss.map (·.1))=res
 unfold uR at cD
 refine xJ (r9 G a _ c q U bw bw) ?_
 refine X.loop (ι:={z:ab×ah aX×ab×Y (WB ca)×ab // z.1<=ss.length/\(z.2.1=aO->z.2.2.2.1.length=0/\z.2.2.1=0)/\z.2.2.2.1.length<=q.length+z.1/\EE (z.2.2.2.1.map (·.1)) z.2.2.2.2 ((ss.map (·.1)).drop z.1)=res/\cq (z.2.2.2.1.map (·.1))+jN ((ss.map (·.1)).drop z.1)<=1000000000000000000})
  (λz=>([(5,.slice z.1.2.1 z.1.2.2.2.1.length z.1.2.2.1),(6,bR z.1.2.2.2.2),(14,.slice a2 ss.length c2),(15,bR ss.length),(16,bR z.1.1)],[dp (cy bY) 2 z.1.2.1 z.1.2.2.2.1,eQ ca.data z.1.2.2.2.1,dp (cy eG) 5 a2 ss,eQ fY.data ss])) (λz=>ss.length - z.1.1)
  ⟨(0,a,c,q,cq (q.map (·.1))),bp _,h0,by simp,by grind,by grind⟩ (Sub.of U) bA ?_
 clear cD
 rintro⟨⟨i,a6,c6,q6,mx⟩,hi,h06,hl6,CB,hu6⟩ ih
 dsimp only at hi h06 hl6 CB hu6 ⊢
 refine xB ?_ ?_<;>intro h
 ·have hi:i<ss.length:=bQ;rw[oD _ _ _ hi]at CB hu6;have hrx:=λl'=>@s7 (q6.map (·.1)) l' ss[i].1;have jv:=bE hi;rw[Ld]at hu6;have ZG:∀x∈[ss[i]],x∈ss:=bQ;refine xS ?_;refine dJ U U U U U hi U λbl o=>?_;generalize ss[i]=x at*;refine xS ?_;refine eT U U U U  ?_;refine xA ?_;intro b8;refine qW (data:=fY.data) ss [x] ZG ?_;refine cM hG (Gl G a6 _ c6 q6 U bw h06 x) U U U eC ?_;intro v B hq;unfold EE at CB;cases PH:ke (q6.map (·.1)) x.1 with
  |none=>
   rw[PH]at hq CB;simp only[Option.getD_none]at CB;obtain⟨u,rfl,rfl⟩:=hq;refine xD ?_;refine xJ (r9 G a6 _ c6 q6 U bw bw) ?_;have hmx:(if(mx:ae)<(cq (q6.map (·.1)):ab)then((cq (q6.map (·.1)):ab):ae)else(mx:ae))=((max mx (cq (q6.map (·.1))):ab):ae):=bw;refine X.less (ih ⟨(i+1,a6,c6,q6,max mx (cq (q6.map (·.1)))),by omega,h06,by grind,CB,by grind⟩ bQ) (MN U (dI U (by grind [bR])) U U (dI U nM)) bA
  |some l=>
   rw[PH]at hq CB;simp only[dz]at CB;obtain⟨h7,h8⟩:=hrx l PH;obtain⟨a7,c7,q7,rfl,rfl,rfl⟩:=hq;rw[bF,bF]at h8;refine xD ?_;refine nX a7 λh9 PA=>?_;refine dR a7 bY q7 U U (λ_=>rfl) λ_=>?_;refine xJ (r9 G a7 _ c7 q7 U bw bw) ?_;have hmx:(if(mx:ae)<(cq (q7.map (·.1)):ab)then((cq (q7.map (·.1)):ab):ae)else(mx:ae))=((max mx (cq (q7.map (·.1))):ab):ae):=bw;refine X.less (ih ⟨(i+1,a7,c7,q7,max mx (cq (q7.map (·.1)))),by omega,h9,by grind,CB,by grind⟩ bQ) (MN U (dI U (by grind [bR])) U U (dI U nM)) bA
 ·have gj:i=ss.length:=bQ;subst gj;rw[cx dW]at CB;have CB:mx=res:=CB;subst CB;exact xR
def recAt(no:av)(x:tK):Place×Rec:=(⟨no,x.at_,x.size⟩,x.f.lW)
def pw(l:Y Eb):Y (Place×Rec):=l.flatMap λf=>(il f.jE.data []).map (recAt f.no)
def ni(l:Y ca):Y (Place×Rec):=pw (yC 1 l)
abbrev pr2(x:Place×Rec):Y aR:=[.agg x.1.cs.toArray,.agg x.2.cs.toArray]
theorem Le:TR be G 146 #[.slice a n c] [] (dC λv B=>∃p,v=.func (.func 232) #[] #[bu p]/\B=[bx p 67 [.slice a n c]]):=YS
theorem CC:(il b []).length<=b.length:=bo (eF _ _) (nt b)
theorem Lf(p:ab)(a:ah aX)(n c:ab)(q:Y (WB ca))(hn:q.length=n)(hs:n<=1000000000000)(hb:∀x∈q,x.1.name.length<=1000000000000/\x.1.data.length<=1000000000):
 IT be GG 232 [bu p] [bx p 67 [.slice a n c],dp (cy bY) 2 a q,eQ ca.data q] pr2 (ni (q.map (·.1))):=by
 refine IT.mk λl I J hY=>?_
 refine bZ U λb O VH hG=>xD ?_
 refine cM hG (K7 1 a n c q hn hs (λx hx=>(hb x hx).1)) U U U eC ?_
 rintro v B ⟨a8,c8,rfl,rfl⟩
 dsimp only[bh,bk,bj]
 have hQl:(mZ 1 q).length<=n:=aG4
 have hQd:∀x∈mZ 1 q,x.1.jE.data.length<=1000000000:=λx hx=>(hb _ (pJ hx)).2
 refine Db (data:=ca.data) (λx:Eb=>x.jE.data) q (mZ 1 q) (λy hy=>⟨_,pJ hy,y.1.jE.data.length,U,by rw[bV]⟩) ?_
 have hv:ni (q.map (·.1))=pw ((mZ 1 q).map (·.1)):=by rw[x7];rfl
 rw[hv]at hY ⊢
 generalize mZ 1 q=Q at*
 refine dR a8 mD Q U U (λ_=>rfl) λhc=>xS ?_
 refine fR [0,8] [5] (ι:={i:ab // i<=Q.length}) (λi q_=>(9,bR Q.length)::(10,bR i.1)::q_) (λi q_=>I (pw ((Q.map (·.1)).take i.1))::q_) (λi=>Q.length - i.1) ⟨0,bp _⟩ ?_
 rintro⟨i,hi⟩ ih
 dsimp only
 refine xB ?_ ?_<;>intro h
 ·have hi:i<Q.length:=bQ;have xz:(Q.map (·.1)).take (i+1)=(Q.map (·.1)).take i++[Q[i].1]:=QY;have XB:Q.map (·.1)=(Q.map (·.1)).take i++Q[i].1::(Q.map (·.1)).drop (i+1):=by
   grind [dV]
  have jv:=bE hi;have hdx:=hQd _ jv;refine nH (data:=λx:Eb=>x.jE.data) Q Q[i] jv λjT mX=>xS ?_;refine dJ U U U U U hi U λbl o=>?_;generalize Q[i]=x at*;refine xS ?_;refine eT U U U U  ?_;refine xA ?_;intro b4;refine ku ae RK 1 ?_;refine cM hG (zb GG x.2.1 _ x.2.2 x.1.jE.data aO 0 0 [] U jT hdx U eK) U U U eC ?_;rintro v B ⟨a17,c17,rfl,rfl⟩;dsimp only[bh,bk,bj];have N2:=bo (CC x.1.jE.data) hdx;have hvx:∀j,pw ((Q.map (·.1)).take i)++((il x.1.jE.data []).take j).map (recAt x.1.no)=pw ((Q.map (·.1)).take i)++((il x.1.jE.data []).take j).map (recAt x.1.no):=λ_=>rfl;have hvi:pw ((Q.map (·.1)).take (i+1))=pw ((Q.map (·.1)).take i)++(il x.1.jE.data []).map (recAt x.1.no):=by
   grind [pw]
  have hva:pw (Q.map (·.1))=pw ((Q.map (·.1)).take i)++((il x.1.jE.data []).map (recAt x.1.no)++pw ((Q.map (·.1)).drop (i+1))):=by
   grind [pw]
  generalize pw ((Q.map (·.1)).drop (i+1))=post at*;generalize pw ((Q.map (·.1)).take i)=pre at*;generalize il x.1.jE.data []=rs at*;refine dR a17 tK.cs rs U U (λ_=>rfl) λhc17=>xS ?_;refine X.loop (ι:={j:ab // j<=rs.length}) (λj=>([(0,.func (.yield l) #[] #[]),(4,bu b4),(8,.slice a8 Q.length c8),(9,bR Q.length),(10,bR i),(17,.slice a17 rs.length c17),(18,bR rs.length),(19,bR j.1)],[I (pre++(rs.take j.1).map (recAt x.1.no)),dp (cy tK.cs) 16 a17 rs,bx b4 262 (mD x),dp (cy mD) 3 a8 Q,eQ (λx:Eb=>x.jE.data) Q,bx p 67 [.slice a n c],dp (cy bY) 2 a q,eQ ca.data q])) (λj=>rs.length - j.1) ⟨0,bp _⟩ (Sub.of U) (by
   dsimp only;rw[jr,jo,bj];exact bA) ?_
  rintro⟨j,hj⟩ rb;dsimp only;refine xB ?_ ?_<;>intro h2
  ·have hj:j<rs.length:=bQ;have hsj:rs.map (recAt x.1.no)=(rs.take j).map (recAt x.1.no)++recAt x.1.no rs[j]::(rs.drop (j+1)).map (recAt x.1.no):=by
    grind [bP,dV]
   have htj:(rs.take (j+1)).map (recAt x.1.no)=(rs.take j).map (recAt x.1.no)++[recAt x.1.no rs[j]]:=QY;have hy:=hY (pre++(rs.take j).map (recAt x.1.no)) (recAt x.1.no rs[j]) ((rs.drop (j+1)).map (recAt x.1.no)++post) (by rw[hva,hsj];simp);rw[cB,<-htj]at hy;refine xS ?_;refine dJ U U U U U hj U λY' o2=>?_;generalize rs[j]=y at*;refine xS ?_;refine eT U U U U  ?_;refine xA ?_;intro b6;refine tM hG hy U U U U ?_ ?_
   ·refine xD ?_;exact bK4
   ·refine xD ?_;exact X.ret VH (.tmps U) ⟨_,.inr U,bA⟩
  ·have PG:j=rs.length:=bQ;subst PG;rw[bV];refine xS ?_;exact X.less (ih ⟨i+1,by omega⟩ bQ) (Qm U U U (dI U nM)) (by dsimp only;rw[hvi];exact bA)
 ·have gj:i=Q.length:=bQ;subst gj;rw[bI dW];refine xS ?_;exact X.fin VH (.tmps U) ⟨_,.inl U,bA⟩
structure Mk where
 now:Y ca
 cap:ae
 steps:Y fY
 iH:ab
 top:az
 cG:ab
 dP:ab
 lN:ab
structure XF where
 q:Y (WB ca)
 a:ah aX
 c:ab
 ss:Y (WB fY)
 sa:ah aX
 sc:ab
 fa:ah aX
 fc:ab
 fx:Y aR
structure XF.ok(p:XF)(m:Mk):Prop where
 now:p.q.map (·.1)=m.now
 nil:p.a=aO->p.q.length=0/\p.c=0
 steps:p.ss.map (·.1)=m.steps
abbrev Mk.cs(m:Mk)(p:XF):Y aR:=[.slice p.a p.q.length p.c,.int .i64 m.cap,.slice p.sa p.ss.length p.sc,.slice p.fa m.iH p.fc,.int .u64 m.top.toNat,.int .i64 m.cG,.int .i64 m.dP,.int .i64 m.lN]
abbrev mkF(M:ab)(m:Mk)(p:XF):Y bG:=[bx M 258 (m.cs p),dp (cy bY) 2 p.a p.q,eQ ca.data p.q,own 266 5 p.sa p.ss.length p.sc (p.ss.flatMap eG),eQ fY.data p.ss,own 270 5 p.fa m.iH p.fc p.fx,pu (p.ok m)]
def vS(M:ab)(m:Mk):bG:=ex (mkF M m)
abbrev eV(e:ae):aR:=.iface 23 (.int .i64 e)
instance:QN be 23:=⟨by kernel_rfl⟩
def Mk.do(m:Mk)(s:fY):aB ae Mk:=
 match ke m.now s with
 |none=>.error 110
 |some l=>if((max m.lN (cq l):ab):ae)>m.cap then .error 111 else .ok {m with now:=l,steps:=m.steps++[s],lN:=max m.lN (cq l)}
theorem GC(m:Mk)(st:WB fY)(h1:m.now.length<=900000000000)(h2:m.steps.length<=900000000000)(h3:cq m.now+st.1.data.length<=1000000000000):
 TR be G 169 #[bu M,.agg (eG st).toArray] [vS M m,eQ fY.data [st]] (MR eV (m.do st.1) λm' v B=>v=.tuple #[]/\B=[vS M m']):=by
 refine bZ U λb O hb hG=>?_
 obtain⟨now,cap,steps,iH,top,cG,dP,lN⟩:=m
 refine X.l8 vS M U λp=>?_
 obtain⟨q,a,c,ss,sa,sc,fa,fc,fx⟩:=p
 dsimp only[bh,bk]at*
 refine mF λhp=>?_
 obtain⟨rfl,Qf,rfl⟩:=hp
 dsimp only at*
 rw[bF]at h1 h2
 obtain⟨⟨so,sn,st2,sd,sN⟩,sta,stc⟩:=st
 dsimp only at*
 refine xP ?_
 intro b3
 refine iK (ι:={z:aR ⊕ (ah aX×ab×Y (WB ca)) // match z with|.inl _=>ke (q.map (·.1)) ⟨so,sn,st2,sd,sN⟩=aO|.inr z=>ke (q.map (·.1)) ⟨so,sn,st2,sd,sN⟩=aN (z.2.2.map (·.1))/\(z.1=aO->z.2.2.length=0/\z.2.1=0)})
  (λz=>match z.1 with
   |.inl u=>([(0,bu M),(3,bu b3),(4,u),(5,.bool aQ)],[])
   |.inr z=>([(0,bu M),(3,bu b3),(4,.slice z.1 z.2.2.length z.2.1),(5,.bool aP)],[bx M 258 [.slice a q.length c,.int .i64 cap,.slice sa ss.length sc,.slice fa iH fc,.int .u64 top.toNat,.int .i64 cG,.int .i64 dP,.int .i64 lN],bx b3 266 [.int .i64 so,bn sn,bn st2,.slice sta sd.length stc,.int .i64 sN],dp (cy bY) 2 z.1 z.2.2,eQ ca.data z.2.2,own 266 5 sa ss.length sc (ss.flatMap eG),eQ fY.data ss,own 270 5 fa iH fc fx,eQ fY.data [((⟨so,sn,st2,sd,sN⟩,sta,stc):WB fY)]])) ?fin ?main
 case main=>
  intro KK dF;refine fU 5 [1,0] ?_;refine xL [0,1,2,3,4] ?_;refine xS ?_;refine cM hG (Gl G a _ c q U bw Qf ⟨⟨so,sn,st2,sd,sN⟩,sta,stc⟩) U U U eC ?_;intro v B hq;cases PH:ke (q.map (·.1)) ⟨so,sn,st2,sd,sN⟩with
  |none=>
   rw[PH]at hq;obtain⟨u,rfl,rfl⟩:=hq;dsimp only[bh,bk,bj];have hf:=X.less (dF ⟨.inl u,PH⟩) (vs:=[(0,bu M),(3,bu b3),(4,u),(5,.bool aQ)]) (λ_ _ h=>h) (H:=[]) bA;exact a97
  |some l=>
   rw[PH]at hq;obtain⟨a4,c4,q4,rfl,rfl,rfl⟩:=hq;dsimp only[bh,bk,bj];refine nX a4 λh9 PA=>?_;refine dR a4 bY q4 U U (λ_=>rfl) λ_=>?_;have hf:=dF ⟨.inr (a4,c4,q4),PH,h9⟩;dsimp only at hf;exact a97
 case fin=>
  unfold Mk.do;dsimp only;rintro⟨u|⟨a4,c4,q4⟩,hz⟩
  ·dsimp only at hz ⊢;rw[hz];exact a99
  ·dsimp only at hz ⊢;obtain⟨PH,h9⟩:=hz;have ZO:=s7 PH;rw[bF,bF]at ZO;dsimp only at ZO;rw[PH];dsimp only;refine xS ?_;refine fU 7 [0,1] ?_;refine xL [0,1,2,3,4,5,6] ?_;refine xZ ?_;intro b29;refine fH (((⟨so,sn,st2,sd,sN⟩,sta,stc):WB fY)) U U U U bw U cE cE cE cE cE bw λa5 c5=>xS ?_;refine Ak (data:=fY.data) ss [((⟨so,sn,st2,sd,sN⟩,sta,stc):WB fY)] ?_;have qN:(ss++[((⟨so,sn,st2,sd,sN⟩,sta,stc):WB fY)]).map (·.1)=ss.map (·.1)++[⟨so,sn,st2,sd,sN⟩]:=dW;generalize ss++[((⟨so,sn,st2,sd,sN⟩,sta,stc):WB fY)]=ss2 at*;refine fU 7 [1] ?_;refine xL [0,1,2,3,4,5,6] ?_;refine xJ (r9 G a4 _ c4 q4 U bw bw) ?_;have hmx:(if(lN:ae)<(cq (q4.map (·.1)):ab)then((cq (q4.map (·.1)):ab):ae)else(lN:ae))=((max lN (cq (q4.map (·.1))):ab):ae):=bw;rw[hmx];refine xS ?_;refine fU 10 [0] ?_;refine xL [0,1,2,3,4,5,6,7,8,9] ?_;refine yB (((max lN (cq (q4.map (·.1))):ab):ae)>cap) (¬((max lN (cq (q4.map (·.1))):ab):ae)>cap) ?_ ?_<;>intro h
   ·rw[ao h];exact a99
   ·rw[aj h];refine xS ?_;refine X.dE (fE (p:=XF.ok ⟨q4,a4,c4,ss2,a5,c5,fa,fc,fx⟩ ⟨q4.map (·.1),cap,ss.map (·.1)++[⟨so,sn,st2,sd,sN⟩],iH,top,cG,dP,max lN (cq (q4.map (·.1)))⟩) ⟨U,h9,qN⟩ _) ?_;exact X.fin hb (.tmps U) ⟨_,⟨_,U,U,U⟩,pB vS M _ U ⟨q4,a4,c4,ss2,a5,c5,fa,fc,fx⟩⟩
theorem Jt(a2:ah aX)(n c n2 c2:ab)(xs ys:Bs)(hn:xs.length=n)(vm:ys.length=n2):
 TR be G 229 #[.slice a n c,.slice a2 n2 c2] [dp RB 1 a xs,dp RB 1 a2 ys] (dX (.bool (xs==ys))):=by
 refine bZ U λb O hb hG=>?_
 exact xR
theorem yL{b:bc}(data:α->Bs)(x:α)(hx:data x=[])(h:X P b O cc k E (eQ data [(x,aO,0)]::H) R):X P b O cc k E H R:=
 X.dE (Hs':=eQ data [(x,aO,0)]::H) (λ_ o hs=>⟨gI,o,ef _,dQ _,.refl _,λ_ _ y hy=>by
  rw[cK.1 hy];dsimp only;rw[hx];exact⟨bz _,λ_=>⟨U,U⟩,.inl U⟩,hs⟩) h
theorem Mr{b:bc}(data:α->Bs)(x:α)(a:ah aX)(c:ab)(h1:(data x).length<=c)(h2:a=aO->(data x).length=0/\c=0)[hf:BQ H a RB 1 (data x)](h:X P b O cc k E (eQ data [(x,a,c)]::H) R):X P b O cc k E H R:=by
 obtain⟨F,hF⟩:=hf.out
 refine X.dE (js hF λr hr y hy=>?_) h
 grind
structure Mk.ok(m:Mk)(L:ab):Prop where
 now:m.now.length<=L
 steps:m.steps.length<=L
 used:cq m.now<=4194304
 cap:m.cap<=4194304
 names:∀f∈m.now,eO f.name=aP
theorem Lg(hd:∀f∈l,eO f.name=aP)(h:ke l s=aN l'):∀f∈l',eO f.name=aP:=by
 grind [ke,List.mem_or_eq_of_mem_set,wH,List.mem_of_mem_eraseIdx,zr,sb,tE]
theorem km{m m':Mk}(h:m.ok L)(e:m.do s=.ok m'):m'.ok (L+1):=by
 unfold Mk.do at e;split at e
 ·cases e
 ·rename_i l hl;split at e
  ·cases e
  ·rename_i h2;cases e;have h3:=s7 hl;have h4:=h.now;have h5:=h.steps;have h6:=h.cap;refine⟨by grind,by grind,by grind,h6,Lg h.names hl⟩
theorem Mk.ok.mono{m:Mk}{L':ab}(h:m.ok L)(hL:L<=L'):m.ok L':=⟨bo h.now hL,bo h.steps hL,h.used,h.cap,h.names⟩
def Mk.ahead(m:Mk)(name data:Bs):aB ae Mk:=
 match m.do ⟨2,name++jl,[],data,0⟩with
 |.error e=>.error e
 |.ok m1=>match m1.do ⟨3,name++jl,[],[],0⟩with
  |.error e=>.error e
  |.ok m2=>m2.do ⟨4,name++jl,name,[],0⟩
theorem pV{m m':Mk}{name data:Bs}(h:m.ok L)(e:m.ahead name data=.ok m'):m'.ok (L+3):=by
 unfold Mk.ahead at e;split at e
 ·cases e
 ·rename_i m1 h1;split at e
  ·cases e
  ·rename_i m2 h2;exact km (km (km h h1) h2) e
theorem A8(L:ab)(m:Mk)(name data:Bs)(a:ah aX)(n c:ab)(hn:data.length=n)(hc:n<=c)(h0:a=aO->n=0/\c=0)(hm:m.ok L)(hL:L<=890000000000)(vP:name.length<=100000000)(hd:data.length<=100000000000):
 TR be G 268 #[bu M,bn name,.slice a n c] [vS M m,dp RB 1 a data] (MR eV (m.ahead name data) λm' v B=>v=.tuple #[]/\B=[vS M m']):=by
 subst hn
 refine jy U λb O hb hG=>?_
 unfold Mk.ahead
 refine xJ (TT G name bw) ?_
 refine Mr fY.data ⟨2,name++jl,[],data,0⟩ a c hc h0 ?_
 refine fC hG hb (GC G M m (⟨2,name++jl,[],data,0⟩,a,c) (bo hm.now bw) (bo hm.steps bw) (by have:=hm.used;grind)) U U U eC (λe he=>⟨e,by rw[he],U,U⟩) ?_
 rintro m1 h1 v B ⟨rfl,rfl⟩
 have qM:=km hm h1
 rw[h1]
 refine xD ?_
 refine yL fY.data ⟨3,name++jl,[],[],0⟩ U ?_
 refine fC hG hb (GC G M m1 (⟨3,name++jl,[],[],0⟩,aO,0) (bo qM.now bw) (bo qM.steps bw) (by have:=qM.used;simp;omega)) U U U eC (λe he=>⟨e,by rw[he],U,U⟩) ?_
 rintro m2 h2 v B ⟨rfl,rfl⟩
 have KC:=km qM h2
 rw[h2]
 refine xD ?_
 refine yL fY.data ⟨4,name++jl,name,[],0⟩ U ?_
 refine fC hG hb (GC G M m2 (⟨4,name++jl,name,[],0⟩,aO,0) (bo KC.now bw) (bo KC.steps bw) (by have:=KC.used;simp;omega)) U U U eC (λe he=>⟨e,by rw[he],U,U⟩) ?_
 rintro m3 h3 v B ⟨rfl,rfl⟩
 rw[h3]
 refine xD ?_
 exact X.fin hb (.tmps U) ⟨_,⟨_,U,U,U⟩,bA⟩
def Mk.yE(m:Mk)(dP:Bs):aB ae (Mk×Bs):=
 match m.ahead (gU 3 (im 3 (m.now.map (·.name))).1).1 dP with
 |.error e=>.error e
 |.ok m'=>.ok (m',(gU 3 (im 3 (m.now.map (·.name))).1).1)
theorem se(n:av):(gU c n).1.length<=1000:=by
 unfold gU;split
 ·rename_i h
  unfold jk
  have h1:=Gg n
  have h2:∀c,1<=c/\c<=3->(lX c).length<=100/\(lY c).length<=100:=by
   rintro c ⟨h1,h2⟩;exact ab8
  grind
 ·simp
theorem kC{s:Bs}(h:eO s=aP):s.length<=1000:=by
 grind [eO]
theorem aG5(L:ab)(m:Mk)(dP:Bs)(a:ah aX)(n c:ab)(hn:dP.length=n)(hc:n<=c)(h0:a=aO->n=0/\c=0)(hm:m.ok L)(hL:L<=890000000000)(hd:dP.length<=100000000000):
 TR be GG 267 #[bu M,.slice a n c] [vS M m,dp RB 1 a dP] (MR eV (m.yE dP) λm' v B=>v=bn m'.2/\B=[vS M m'.1]):=by
 refine bZ U λb O hb hG=>?_
 unfold Mk.yE
 have qM:=hm.now
 have vP:=hm.names
 refine X.l8 vS M U λp=>?_
 obtain⟨q,pa,pc,ss,sa,sc,fa,fc,fx⟩:=p
 dsimp only[bh,bk]at*
 refine mF λhp=>?_
 have l6:=hp.now
 have vo:=hp.nil
 dsimp only at l6 vo
 rw[<-l6]at qM vP
 rw[bF]at qM
 refine xS ?_
 refine cM hG (Vz GG pa _ pc q U bw) U U U eC ?_
 rintro v B ⟨a2,c2,rfl,rfl⟩
 dsimp only[bh,bk,bj]
 rw[l6]
 have vF:(m.now.map (·.name)).length=q.length:=bQ
 refine dR a2 (λk:Bs=>[bn k]) (m.now.map (λf:ca=>f.name)) U U (λ_=>rfl) λ_=>xS ?_
 refine jJ hG (Gj 3 a2 _ c2 (m.now.map (·.name)) U bw (λs hs=>by
  grind [kC])) U U U ?_
 have hfr:(im 3 (m.now.map (·.name))).2=0:=by grind [im]
 rw[hfr]
 generalize(im 3 (m.now.map (·.name))).1=num at*
 refine xJ (AY 3 num) ?_
 have hml:=se 3 num
 generalize(gU 3 num).1=nm at*
 refine xS ?_
 refine X.dE (fE hp _) ?_
 refine gr vS M m U ⟨q,pa,pc,ss,sa,sc,fa,fc,fx⟩ ?_
 refine fC hG hb (A8 GG M L m nm dP a n c hn hc h0 hm bw bw hd) U U U eC (λe he=>⟨e,by rw[he],U,U⟩) ?_
 rintro m1 h1 v B ⟨rfl,rfl⟩
 rw[h1]
 refine xD ?_
 exact cT hb (.tmps U) ⟨_,U,U,U⟩
theorem aG6(out:Bs)(f:nN):(D' out f).length<=out.length+6100:=Nb out f
theorem zw:(hintOf b).1.length<=50000000000:=by
 unfold hintOf;split
 ·simp
 ·rename_i h
  have HY:(iO qq b (0,[])).1.2.length<=6100*(iO qq b (0,[])).1.1:=Cg qq (λs=>s.2.length<=6100*s.1) (λs x h=>(FN s x h).1) _ _ _ _ dW
  grind [iO,FQ,aG6]
def Mk.hint(m:Mk)(name clean:Bs):aB ae (Mk×ae):=
 if 0<=jI m.now (gp name).1 then
  if(hintOf clean).2=0/\(tE m.now (jI m.now (gp name).1).toNat).data=(hintOf clean).1 then .ok (m,1)
  else
   let w:=(iF (tE m.now (jI m.now (gp name).1).toNat).data (jD clean)).2
   let v:=if w=1 then 5 else w
   if(hintOf clean).2=0 then(match m.ahead (gp name).1 (hintOf clean).1 with|.error e=>.error e|.ok m'=>.ok (m',v))
   else(match m.do ⟨1,(gp name).1,[],[],0⟩with|.error e=>.error e|.ok m'=>.ok (m',v))
 else if(hintOf clean).2≠0 then .ok (m,0)
 else match m.ahead (gp name).1 (hintOf clean).1 with|.error e=>.error e|.ok m'=>.ok (m',2)
theorem N5(n:av)(h:1<=c/\c<=3):(jk c n).length<=1000:=by
 by_cases hn:n=0
 ·subst hn;exact ab8
 ·have:=se c n
  grind [gU]
theorem zx(name:Bs):(gp name).1.length<=1000:=by
 grind [gp,N5]
theorem ad0(L:ab)(m:Mk)(name clean:Bs)(a:ah aX)(n c:ab)(hn:clean.length=n)(hc:n<=c)(hm:m.ok L)(hL:L<=880000000000)(vP:name.length<=1000000)(hd:clean.length<=1000000000):
 TR be GG 269 #[bu M,bn name,.slice a n c] [vS M m,dp RB 1 a clean] (MR eV (m.hint name clean) λm' v B=>v=.int .i64 m'.2/\B=[vS M m'.1]):=by
 subst hn
 refine jy U λb O hb hG=>?_
 have N2:=zw clean
 have tJ:=zx name
 unfold Mk.hint
 refine xJ (xY name bw) ?_
 generalize(gp name).1=nm at*
 refine xS ?_
 refine cM hG (KW GG a _ c clean U hc hd) U U U eC ?_
 have qM:=hm.now
 have hmu:=hm.used
 rintro v B (⟨hz,a9,c9,rfl,rfl⟩|⟨hz,rfl,rfl⟩)
 ·rw[hz];generalize(hintOf clean).1=right at*;generalize(hintOf clean).2=er at*;dsimp only[bh,bk,bj];refine nX a9 λh9 PA=>?_;refine jz a9 (l:=right) U λ_=>xS ?_;refine X.l8 vS M U λp=>?_;obtain⟨q,pa,pc,ss,sa,sc,fa,fc,fx⟩:=p;dsimp only[bh,bk]at*;refine mF λhp=>?_;have l6:=hp.now;have vo:=hp.nil;dsimp only at l6 vo;have KX:q.length<=1000000000000:=bQ;refine xJ (xX GG pa _ pc q nm U bw) ?_;rw[l6];have hix:=@sb m.now nm;generalize hI:jI m.now nm=I at*;refine yB (¬0<=I) (0<=I) ?_ ?_<;>intro h
  ·rw[aj h,aj dW];exact bK5
  ·rw[ao h];have hiq:I.toNat<q.length:=bQ;have hold:(tE m.now I.toNat).data=q[I.toNat].1.data:=by grind [Gk]
   have hold2:q[I.toNat].1.data.length<=4194304:=bK6;rw[hold];refine nH (data:=ca.data) q q[I.toNat] (bE hiq) λjT mX=>xS ?_;refine dJ U U U U bw hiq U λbl o=>?_;generalize q[I.toNat]=x at*;refine xS ?_;refine qP U U U 1 U U  ?_;refine xJ (Jt GG x.2.1 a9 _ x.2.2 _ c9 x.1.data right U U) ?_;refine yB (x.1.data=right) (¬x.1.data=right) ?_ ?_<;>intro h2
   ·rw[ao ⟨U,h2⟩];refine xS ?_;exact a'0
   ·rw[aj bQ,ao U];refine xJ (FF GG a _ c clean U hc bw) ?_;refine cM hG (Ch GG x.2.1 _ x.2.2 x.1.data (jD clean) U jT bw) U U U eC ?_;generalize iF x.1.data (jD clean)=W;rintro v B (⟨hw,a5,c5,rfl,rfl⟩|⟨hw,rfl,rfl⟩)
    ·rw[hw,ao U];refine xD ?_;exact bW2
    ·rw[aj hw];refine xD ?_;refine xB ?_ ?_<;>intro h5
     ·exact aD bQ hw
     exact bK5
 ·generalize(hintOf clean).1=right at*;generalize(hintOf clean).2=er at*;refine xD ?_;refine X.l8 vS M U λp=>?_;obtain⟨q,pa,pc,ss,sa,sc,fa,fc,fx⟩:=p;dsimp only[bh,bk]at*;refine mF λhp=>?_;have l6:=hp.now;have vo:=hp.nil;dsimp only at l6 vo;have KX:q.length<=1000000000000:=bQ;refine xJ (xX GG pa _ pc q nm U bw) ?_;rw[l6];have hix:=@sb m.now nm;generalize hI:jI m.now nm=I at*;refine yB (¬0<=I) (0<=I) ?_ ?_<;>intro h
  ·rw[aj h,ao hz];refine xS ?_;refine bD 34 aP U (by simp[hz]) (xS ?_);exact a'0
  ·rw[ao h];have hiq:I.toNat<q.length:=bQ;have hold:(tE m.now I.toNat).data=q[I.toNat].1.data:=by grind [Gk]
   have hold2:q[I.toNat].1.data.length<=4194304:=bK6;rw[hold];refine nH (data:=ca.data) q q[I.toNat] (bE hiq) λjT mX=>xS ?_;refine dJ U U U U bw hiq U λbl o=>?_;generalize q[I.toNat]=x at*;refine xS ?_;refine qP U U U 1 U U (xS ?_);refine bD 49 aQ U (by simp[hz]) (xS ?_);rw[aj bw,aj hz];refine xJ (FF GG a _ c clean U hc bw) ?_;refine cM hG (Ch GG x.2.1 _ x.2.2 x.1.data (jD clean) U jT bw) U U U eC ?_;generalize iF x.1.data (jD clean)=W;rintro v B (⟨hw,a5,c5,rfl,rfl⟩|⟨hw,rfl,rfl⟩)
   ·rw[hw,ao U];refine xD ?_;exact bK7
   ·rw[aj hw];refine xD ?_;refine xB ?_ ?_<;>intro h5
    ·exact aD bQ hw
    refine xS ?_;exact bK7
end
section
variable{m m':Mk}{cc:ah (ar aW×Y aW)}{R:aZ->Y bG->Prop}{z:Mk×Bs}{nm j:Bs}{L:ab}{f:ca}{E:Env}{H:Y bG}{α:Type}{O:de}{k:Kt}(a:ah aX)(c:ab)(x:WB ca)(w:aV)(b:Bs)(l:Y Ext)(i:ab)(G:dA)(so:ae)(D:ab)(s:cd)(st:WB fY)
def kY(l:Y Ext):ae:=(l.map (·.len)).sum
theorem zy(m:Y Ext):kY (l++m)=kY l+kY m:=by simp[kY]
def A9(n:ae)(x:Ext):Prop:=0<=x.at_/\0<=x.len/\x.at_+x.len<=n
theorem GD{n a t:ae}{l:Y Ext}(h0:0<=a)(L0:a<=t)(ht:t<=n)(hl:kY l=a)(hi:∀x∈l,A9 n x):kY (nB a l t)=t/\∀x∈nB a l t,A9 n x:=by
 unfold nB
 split
 ·rename_i h
  refine⟨by rw[zy,hl];grind [kY],λx hx=>?_⟩
  rcases du.1 hx with h2|h2
  ·grind
  ·rw[cK.1 h2];exact⟨h0,by grind,by grind⟩
 grind
theorem T0(b:Bs):∀(f at_:ab) (s:ae×Y Ext),s.1<=at_->0<=s.1->s.1<=b.length->kY s.2=s.1->(∀x∈s.2,A9 b.length x)->
 0<=((mw f b at_).foldl lD s).1/\((mw f b at_).foldl lD s).1<=b.length/\kY ((mw f b at_).foldl lD s).2=((mw f b at_).foldl lD s).1/\∀x∈((mw f b at_).foldl lD s).2,A9 b.length x
 |0,at_,s,h1,h2,h3,h4,h5=>⟨h2,h3,h4,h5⟩
 |f+1,at_,s,h1,h2,h3,h4,h5=>by
  unfold mw
  have h:=rG b at_
  split
  ·grind
  ·rename_i h0;rw[eD];have h6:(at_:ae)<=(ga b at_).2.1/\9<=(ga b at_).2.2/\(ga b at_).2.1+(ga b at_).2.2<=b.length:=by
    omega
   have hj:=GD (n:=b.length) (a:=s.1) (t:=(ga b at_).2.1) (l:=s.2) h2 bw bw h4 h5;refine T0 b f _ _ ?_ ?_ ?_ ?_ ?_
   ·exact a'1
   ·show 0<=(ga b at_).2.1+(ga b at_).2.2;omega
   ·exact a'1
   ·show kY (nB s.1 s.2 (ga b at_).2.1++[⟨aQ,(ga b at_).2.1,(ga b at_).2.2⟩])=(ga b at_).2.1+(ga b at_).2.2;rw[zy,hj.1];simp[kY]
   ·intro x hx
    rcases du.1 hx with h7|h7
    ·grind
    ·rw[cK.1 h7];exact⟨by grind,by grind,h6.2.2⟩
theorem qe:kY (dL b)=b.length/\∀x∈dL b,A9 b.length x:=by
 have h:=T0 b (b.length+1) 0 (0,[]) dW dW dW U dW;exact GD h.1 h.2.1 (Int.le_refl _) h.2.2.1 h.2.2.2
def uS(b:Bs)(x:Ext):Bs:=(b.drop x.at_.toNat).take x.len.toNat
def N6(b:Bs)(l:Y Ext):Bs:=l.flatMap λx=>if x.dP then[]else uS b x
def EF(b:Bs)(l:Y Ext):Bs:=l.flatMap λx=>if x.dP then uS b x else[]
def nJ(l:Y Ext):ab:=(l.filter (·.dP)).length
def nF(l:Y Ext):ab:=(l.filter (!·.dP)).length
theorem zA{b:Bs}{x:Ext}(h:A9 b.length x):(uS b x).length=x.len.toNat:=by
 unfold uS;obtain⟨h1,h2,h3⟩:=h
 grind
theorem Ba(b:Bs):∀l:Y Ext,(∀x∈l,A9 b.length x)->((N6 b l).length:ae)+(EF b l).length=kY l
 |[],_=>rfl
 |x::r,h=>by
  have ih:=Ba b r λy hy=>h y D9;have hx:=zA (h x dW);have mX:=(h x dW).2.1;unfold N6 EF kY at*;simp only[ei,bK,bN,fS];split<;>simp only[dU]<;>omega
theorem N7(h:∀x∈l,A9 b.length x)(i:ab):kY (l.take i)<=kY l:=by
 have h1:kY l=kY (l.take i)+kY (l.drop i):=by rw[<-zy,dV]
 have h2:∀m:Y Ext,(∀x∈m,A9 b.length x)->0<=kY m:=by
  intro m;induction m with
  |nil=>intro _;exact Int.le_refl _
  |cons x r ih=>
   intro hm
   have:=ih λy hy=>hm y D9
   have:=(hm x dW).2.1
   grind [kY]
 grind
theorem ad1(h:i<l.length):N6 b (l.take (i+1))=N6 b (l.take i)++(if l[i].dP then[]else uS b l[i]):=by
 grind [cg,N6]
theorem ad2(h:i<l.length):EF b (l.take (i+1))=EF b (l.take i)++(if l[i].dP then uS b l[i]else[]):=by
 grind [cg,EF]
theorem aG7(h:i<l.length):nJ (l.take (i+1))=nJ (l.take i)+(if l[i].dP then 1 else 0):=by
 grind [cg,nJ]
theorem aG8(h:i<l.length):nF (l.take (i+1))=nF (l.take i)+(if l[i].dP then 0 else 1):=by
 grind [cg,nF]
theorem bK8:nJ l<=l.length:=eF _ _
theorem a'2:nF l<=l.length:=eF _ _
def ad3(l:Y Ext):ai:=match l[l.length - 1]? with|some x=>x.dP|none=>aQ
def aG9(a b:az):az:=if a.toNat<b.toNat then b else a
def Bb(t:az)(l:Y tK):az:=l.foldl (λt x=>aG9 t x.f.lW.fQ) t
def Mk.pK(m:Mk)(f:ca):aB ae Mk:=
 let ex:=dL f.data
 if 0<nJ ex then
  match Mk.yE {m with cG:=m.cG+nF ex,dP:=m.dP+(EF f.data ex).length} (EF f.data ex)with
  |.error e=>.error e
  |.ok m2=>if nJ ex=1/\ad3 ex=aP then m2.1.do ⟨5,f.name,[],[],(N6 f.data ex).length⟩else m2.1.ahead f.name (N6 f.data ex)
 else .ok {m with cG:=m.cG+nF ex,dP:=m.dP+(EF f.data ex).length}
def Mk.clean(m:Mk)(f:ca):aB ae Mk:=
 match m.pK f with
 |.error e=>.error e
 |.ok m2=>match m2.hint f.name (N6 f.data (dL f.data))with
  |.error e=>.error e
  |.ok m3=>.ok {m3.1 with top:=Bb m3.1.top (il f.data [])}
theorem z8{dP:Bs}(h:m.ok L)(e:m.yE dP=.ok z):z.1.ok (L+3):=by
 unfold Mk.yE at e
 grind [pV]
theorem Ke{b:Bs}{z:Mk×ae}(h:m.ok L)(e:m.hint nm b=.ok z):z.1.ok (L+3):=by
 unfold Mk.hint at e;split at e
 ·split at e
  ·exact ad4
  ·dsimp only at e
   split at e
   ·grind [pV]
   ·split at e
    ·cases e
    ·rename_i m1 h1;cases e;exact(km h h1).mono bw
 ·split at e
  ·exact ad4
  grind [pV]
theorem vU(h:m.ok L)(e:m.pK f=.ok m'):m'.ok (L+6):=by
 unfold Mk.pK at e;dsimp only at e;have h2:Mk.ok {m with cG:=m.cG+nF (dL f.data),dP:=m.dP+(EF f.data (dL f.data)).length} L:=⟨h.now,h.steps,h.used,h.cap,h.names⟩;split at e
 ·split at e
  ·cases e
  ·rename_i m2 h1
   have h3:=z8 h2 h1
   split at e
   ·exact(km h3 e).mono bw
   grind [pV]
 ·cases e;exact h2.mono bw
theorem yI(h:m.ok L)(e:m.clean f=.ok m'):m'.ok (L+9):=by
 unfold Mk.clean at e;split at e
 ·cases e
 ·rename_i m2 h2;split at e
  ·cases e
  ·rename_i m3 h3;cases e;have h4:=Ke (vU h h2) h3;exact⟨h4.now,h4.steps,h4.used,h4.cap,h4.names⟩
theorem Rk(t:az)(l:Y tK)(i:ab)(h:i<l.length):Bb t (l.take (i+1))=aG9 (Bb t (l.take i)) l[i].f.lW.fQ:=by
 grind [cg,Bb]
theorem ad5(M L:ab)(m:Mk)(x:WB ca)(hm:m.ok L)(hL:L<=870000000000)(vP:x.1.name.length<=1000)(hd:x.1.data.length<=4194304)(hfr:m.cG<=1000000000000000000)(hju:m.dP<=1000000000000000000):
 TR be GG 171 #[bu M,.agg (bY x).toArray] [vS M m,eQ ca.data [x]] (MR eV (m.clean x.1) λm' v B=>(∃nm ea en ec bad hv,v=.agg #[bn nm,.int .i64 1,.slice ea en ec,bn bad,.int .i64 hv])/\B=[vS M m']):=by
 refine bZ U λb O hb hG=>?_
 obtain⟨⟨name,data⟩,xa,xc⟩:=x
 dsimp only at vP hd
 refine nH (data:=ca.data) [((⟨name,data⟩,xa,xc):WB ca)] ((⟨name,data⟩,xa,xc):WB ca) (cK.2 U) λjT mX=>?_
 dsimp only at jT mX ⊢
 obtain⟨iP,gj⟩:=qe data
 have vI:m.pK ⟨name,data⟩=if 0<nJ (dL data)then
  (match Mk.yE {m with cG:=m.cG+nF (dL data),dP:=m.dP+(EF data (dL data)).length} (EF data (dL data))with
  |.error e=>.error e
  |.ok m2=>if nJ (dL data)=1/\ad3 (dL data)=aP then m2.1.do ⟨5,name,[],[],(N6 data (dL data)).length⟩else m2.1.ahead name (N6 data (dL data)))
  else .ok {m with cG:=m.cG+nF (dL data),dP:=m.dP+(EF data (dL data)).length}:=U
 have yN:m.clean ⟨name,data⟩=(match m.pK ⟨name,data⟩with
  |.error e=>.error e
  |.ok m2=>match m2.hint name (N6 data (dL data))with
   |.error e=>.error e
   |.ok m3=>.ok {m3.1 with top:=Bb m3.1.top (il data [])}):=U
 have hexl:(dL data).length<=2*data.length+1:=by
  have h1:=uK (tV (mG data)).1 (tV (mG data)).2 data.length;have h2:=AK (mG data);have h3:=nt data;unfold dL;omega
 generalize m.clean ⟨name,data⟩=res at*
 refine xP ?_
 intro b3
 refine kq U U λb4=>?_
 refine X.l8 vS M U λp=>?_
 obtain⟨q,pa,pc,ss,sa,sc,fa,fc,fx⟩:=p
 dsimp only[bh,bk]at*
 refine mF λhp=>xS ?_
 refine tq [0,3,4,5] [9] (ι:=ab×ah aX×ab) (λz q_=>(6,bu z.1)::q_) (λz q_=>bx z.1 270 [bn name,.int .i64 1,.slice z.2.1 (dL data).length z.2.2,bn [],.int .i64 0]::dp (cy Ext.cs) 3 z.2.1 (dL data)::q_) ?fin ?main
 case main=>
  intro KK dF;refine fU 4 [7] ?_;refine xL [0,1,2,3] ?_;refine eN U U U U U ?_ ?_
  ·refine xS ?_;refine cM hG (FI GG xa _ xc data U jT bw) U U U eC ?_;rintro v B ⟨ea,ec,rfl,rfl⟩;dsimp only[bh,bk,bj];refine dR ea Ext.cs (dL data) U U (λ_=>rfl) λ_=>xS ?_;refine eN U U U U U ?_ ?_
   ·refine xA ?_;intro b6;exact X.W (dF (b6,ea,ec))
   ·refine xA ?_;intro b6;exact X.W (dF (b6,ea,ec))
  ·refine xA ?_;intro b6;refine cM hG (FI GG xa _ xc data U jT bw) U U U eC ?_;rintro v B ⟨ea,ec,rfl,rfl⟩;dsimp only[bh,bk,bj];refine dR ea Ext.cs (dL data) U U (λ_=>rfl) λ_=>xS ?_;exact X.W (dF (b6,ea,ec))
 case fin=>
  rintro⟨b6,ea,ec⟩;dsimp only;have Lh:=hm;obtain⟨now,cap,steps,iH,top,cG,dP,lN⟩:=m;dsimp only[Mk.cs]at hfr hju vI hp ⊢;have hsplit:True:=trivial;generalize hexs:dL data=ex at*;refine xS ?_;refine X.dE (fh 5 1 _) ?_;refine X.dE (fh 5 1 _) ?_;refine X.loop (ι:={z:ab×(ah aX×ab)×(ah aX×ab) // z.1<=ex.length}) (λz=>([(0,bu M),(3,bu b3),(4,bu b4),(5,.pointer (aN ⟨M,0+2+1,aO⟩)),(6,bu b6),(7,.slice z.1.2.1.1 (N6 data (ex.take z.1.1)).length z.1.2.1.2),(8,.slice z.1.2.2.1 (EF data (ex.take z.1.1)).length z.1.2.2.2),(9,.int .i64 (nJ (ex.take z.1.1):ab)),(26,.slice ea ex.length ec),(27,bR ex.length),(28,bR z.1.1)],
   [own 5 1 z.1.2.1.1 (N6 data (ex.take z.1.1)).length z.1.2.1.2 ((N6 data (ex.take z.1.1)).map gT),own 5 1 z.1.2.2.1 (EF data (ex.take z.1.1)).length z.1.2.2.2 ((EF data (ex.take z.1.1)).map gT),bx b6 270 [bn name,.int .i64 1,.slice ea ex.length ec,bn [],.int .i64 0],dp (cy Ext.cs) 3 ea ex,bx b4 270 [bn [],.int .i64 0,.slice aO 0 0,bn [],.int .i64 0],bx b3 70 [bn name,.slice xa data.length xc],dp RB 1 xa data,bx M 258 [.slice pa q.length pc,.int .i64 cap,.slice sa ss.length sc,.slice fa iH fc,.int .u64 top.toNat,.int .i64 (cG+nF (ex.take z.1.1):ab),.int .i64 dP,.int .i64 lN],dp (cy bY) 2 pa q,eQ ca.data q,own 266 5 sa ss.length sc (ss.flatMap eG),eQ fY.data ss,own 270 5 fa iH fc fx])) (λz=>ex.length - z.1.1)
   ⟨(0,(aO,0),(aO,0)),bp _⟩ (Sub.of U) (by
    dsimp only;rw[jr];exact(show bS _ [own 5 1 aO 0 0 [],own 5 1 aO 0 0 [],bx b6 270 [bn name,.int .i64 1,.slice ea ex.length ec,bn [],.int .i64 0],dp (cy Ext.cs) 3 ea ex,bx b4 270 [bn [],.int .i64 0,.slice aO 0 0,bn [],.int .i64 0],bx b3 70 [bn name,.slice xa data.length xc],dp RB 1 xa data,bx M 258 [.slice pa q.length pc,.int .i64 cap,.slice sa ss.length sc,.slice fa iH fc,.int .u64 top.toNat,.int .i64 cG,.int .i64 dP,.int .i64 lN],dp (cy bY) 2 pa q,eQ ca.data q,own 266 5 sa ss.length sc (ss.flatMap eG),eQ fY.data ss,own 270 5 fa iH fc fx]from bA)) ?_
  rintro⟨⟨i,⟨a7,c7⟩,⟨a8,c8⟩⟩,hi⟩ ih;dsimp only at hi ⊢;have zX:=Ba data (ex.take i) λy hy=>gj y (List.mem_of_mem_take hy);have hbt:=N7 data ex gj i;have hjl:=bK8 (ex.take i);have nC:=a'2 (ex.take i);rw[dG]at hjl nC;refine xB ?_ ?_<;>intro h
  ·have hi:i<ex.length:=sH;have t1:=ad1 data ex i hi;have t2:=ad2 data ex i hi;have t3:=aG7 ex i hi;have t4:=aG8 ex i hi;obtain⟨k1,k2,k3⟩:=gj _ (bE hi);have k4:=zA (gj _ (bE hi));refine xS ?_;refine dJ U U U U U hi U λbl o=>?_;generalize ex[i]=y at*;refine xS ?_;refine eT U U U U  ?_;refine xA ?_;intro yP;refine pj (xs:=data) (l:=y.at_.toNat) (h:=y.at_.toNat+y.len.toNat) U U U U (Bd.at U (show y.at_=(y.at_.toNat:ae) by omega)) (Bd.at U (show y.at_+y.len=((y.at_.toNat+y.len.toNat:ab):ae) by omega)) bw bw bw λa12 c12 hc12=>?_;have e12:y.at_.toNat+y.len.toNat - y.at_.toNat=y.len.toNat:=bw;rw[e12];rw[e12]at hc12;have hcut:(data.drop y.at_.toNat).take y.len.toNat=uS data y:=U;rw[hcut];have hcl2:(uS data y).length<=4194304:=bw;rw[<-k4];generalize uS data y=bits at*;have VH:bits.length=bits.length:=U;generalize N6 data (ex.take i)=fr at*;generalize EF data (ex.take i)=ju at*;refine xS ?_;cases hyj:y.dP with
   |false=>
    simp only[hyj,di,aI,bj,Nat.add_zero]at t1 t2 t3 t4;refine bD 44 aP U (by simp[hyj]) (xS ?_);refine jA U U U U VH bw λa9 c9=>xS ?_;have e9:((cG+nF (ex.take i):ab):ae)+1=((cG+nF (ex.take (i+1)):ab):ae):=bw;rw[e9];refine xS ?_;refine X.less (ih ⟨(i+1,(a9,c9),(a8,c8)),by dsimp only;omega⟩ oQ) ?_ ?_
    ·dsimp only;rw[t1,t2,t3];exact(Sub.cons U (az1 U U U U U U U U U (dI U nM)))
    ·dsimp only;rw[t1,t2];exact bA
   |true=>
    simp only[hyj,if_true,bj,Nat.add_zero]at t1 t2 t3 t4;refine bD 44 aQ U (by simp[hyj]) (xS ?_);refine jA U U U U VH bw λa9 c9=>xS ?_;refine X.less (ih ⟨(i+1,(a7,c7),(a9,c9)),by dsimp only;omega⟩ oQ) ?_ ?_
    ·dsimp only;rw[t1,t2,t3];exact(Sub.cons U (az1 U U U U U U (dI U dW) U U (dI U nM)))
    ·dsimp only;rw[t1,t2,t4];exact bA
  ·have hin2:i=ex.length:=sH
   subst hin2
   rw[bV]at zX hjl nC ⊢
   have hfrl:(N6 data ex).length<=4194304:=bw
   have hjul:(EF data ex).length<=4194304:=bw
   have N2:=bo (CC data) hd
   have ZP:nJ ex=1->0<ex.length:=bw
   unfold ad3 at vI
   generalize N6 data ex=fr at*
   generalize EF data ex=ju at*
   refine xS ?_
   refine nX a7 λh71 h72=>?_
   refine jz a7 (l:=fr) U λ_=>?_
   refine nX a8 λh81 h82=>?_
   refine jz a8 (l:=ju) U λ_=>?_
   have ejk:(dP:ae)+(ju.length:ae)=((dP+ju.length:ab):ae):=bw
   rw[ejk]
   refine xS ?_
   refine tq [0,3,4,5,6,7] [0,1,1,1,4,4,4,4,4] (ι:={z:Mk×Bs // Mk.pK ⟨now,cap,steps,iH,top,cG,dP,lN⟩ ⟨name,data⟩=.ok z.1}) (λz q_=>q_) (λz q_=>vS M z.1.1::bx b6 270 [bn name,.int .i64 1,.slice ea ex.length ec,bn z.1.2,.int .i64 0]::q_) ?y7 ?a'3
   case a'3=>
    intro KK dF;refine yB (0<nJ ex) (¬0<nJ ex) ?_ ?_<;>intro hj
    ·rw[ao hj]at vI;refine xS ?_;refine X.dE (fE (p:=XF.ok ⟨q,pa,pc,ss,sa,sc,fa,fc,fx⟩ ⟨now,cap,steps,iH,top,cG+nF ex,dP+ju.length,lN⟩) ⟨hp.now,hp.nil,hp.steps⟩ _) ?_;refine gr vS M ⟨now,cap,steps,iH,top,cG+nF ex,dP+ju.length,lN⟩ U ⟨q,pa,pc,ss,sa,sc,fa,fc,fx⟩ ?_;have aH0:Mk.ok ⟨now,cap,steps,iH,top,cG+nF ex,dP+ju.length,lN⟩ L:=⟨Lh.now,Lh.steps,Lh.used,Lh.cap,Lh.names⟩;refine fC hG hb (aG5 M L _ ju a8 _ c8 U h82 h81 aH0 bw bw) U U U eC (λe he=>⟨e,by rw[yN,vI,he],U,U⟩) ?_;rintro⟨m2,nm2⟩ h2 v B ⟨rfl,rfl⟩;have ad6:=z8 aH0 h2;rw[h2]at vI;dsimp only at vI ad6 ⊢;refine xD ?_;by_cases kN:nJ ex=1
     ·refine bD 78 aP U (by simp[kN]) (xS ?_);have hl0:=ZP kN;refine dJ (j:=ex.length - 1) U U U U bw bw U λbl o=>?_;rw[bX (show ex.length - 1<ex.length by omega)]at vI;generalize ex[ex.length - 1]=y at*;refine xB ?_ ?_<;>intro hlj
      ·rw[ao ⟨kN,hlj⟩]at vI;refine xS ?_;refine yL fY.data ⟨5,name,[],[],fr.length⟩ U ?_;refine fC hG hb (GC GG M m2 (⟨5,name,[],[],fr.length⟩,aO,0) (bo ad6.now bw) (bo ad6.steps bw) (by have:=ad6.used;simp;omega)) U U U eC (λe he=>⟨e,by rw[yN,vI,he],U,U⟩) ?_;rintro m3 h3 v B ⟨rfl,rfl⟩;rw[h3]at vI;refine xD ?_;exact X.W (dF ⟨(m3,nm2),vI⟩)
      ·have hlj:y.dP=aQ:=by simpa using hlj
       rw[aj (by rintro⟨_,h5⟩;have h5:y.dP=aP:=h5;rw[hlj]at h5;cases h5)]at vI;exact bK9
     ·refine bD 78 aQ U fD ?_;rw[aj (by rintro⟨h5,_⟩;exact kN h5)]at vI;exact bK9
    ·rw[aj hj]at vI;refine xS ?_;refine X.dE (fE (p:=XF.ok ⟨q,pa,pc,ss,sa,sc,fa,fc,fx⟩ ⟨now,cap,steps,iH,top,cG+nF ex,dP+ju.length,lN⟩) ⟨hp.now,hp.nil,hp.steps⟩ _) ?_;refine gr vS M ⟨now,cap,steps,iH,top,cG+nF ex,dP+ju.length,lN⟩ U ⟨q,pa,pc,ss,sa,sc,fa,fc,fx⟩ ?_;exact X.W (dF ⟨(_,[]),vI⟩)
   case y7=>
    rintro⟨⟨m2,bad⟩,h2⟩;dsimp only at h2 ⊢;have aH0:=vU Lh h2;rw[h2]at yN;dsimp only at yN;refine xS ?_;refine fC hG hb (ad0 M (L+6) m2 name fr a7 _ c7 U h72 aH0 bw bw bw) U U U eC (λe he=>⟨e,by rw[yN,he],U,U⟩) ?_;rintro⟨m3,hv⟩ h3 v B ⟨rfl,rfl⟩;rw[h3]at yN;dsimp only at yN ⊢;refine xD ?_;refine ku ae RK 1 ?_;refine cM hG (zb GG xa _ xc data aO 0 0 [] U jT bw U eK) U U U eC ?_;rintro v B ⟨a17,c17,rfl,rfl⟩;dsimp only[bh,bk,bj];generalize il data []=rs at*;refine dR a17 tK.cs rs U U (λ_=>rfl) λhc17=>?_;refine X.l8 vS M U λp=>?_;obtain⟨q,pa,pc,ss,sa,sc,fa,fc,fx⟩:=p;obtain⟨now,cap,steps,iH,top,cG,dP,lN⟩:=m3;dsimp only[bh,bk,Mk.cs]at*;refine mF λhp=>xS ?_;refine X.loop (ι:={j:ab // j<=rs.length}) (λj=>([(4,bu b4),(5,.pointer (aN ⟨M,0+2+1,aO⟩)),(6,bu b6),(109,.slice a17 rs.length c17),(110,bR rs.length),(111,bR j.1)],[bx M 258 [.slice pa q.length pc,.int .i64 cap,.slice sa ss.length sc,.slice fa iH fc,.int .u64 (Bb top (rs.take j.1)).toNat,.int .i64 cG,.int .i64 dP,.int .i64 lN],dp (cy bY) 2 pa q,eQ ca.data q,own 266 5 sa ss.length sc (ss.flatMap eG),eQ fY.data ss,own 270 5 fa iH fc fx,dp (cy tK.cs) 16 a17 rs,bx b6 270 [bn name,.int .i64 1,.slice ea ex.length ec,bn bad,.int .i64 hv],bx b4 270 [bn [],.int .i64 0,.slice aO 0 0,bn [],.int .i64 0]])) (λj=>rs.length - j.1) ⟨0,bp _⟩ (Sub.of U) (by dsimp only;rw[show Bb top (rs.take 0)=top from rfl];exact bA) ?_;rintro⟨j,hj⟩ rb;dsimp only;refine xB ?_ ?_<;>intro h5
    ·have hj:j<rs.length:=Ir;have htj:=Rk top rs j hj;refine xS ?_;refine dJ U U U U U hj U λY' o2=>?_;generalize rs[j]=y at*;generalize Bb top (rs.take j)=t1 at*;refine xS ?_;refine eT U U U U  ?_;refine xA ?_;intro N8;refine fG (sG [0,1,2,3,4,5,6,7,8]) [bx M 258 [.slice pa q.length pc,.int .i64 cap,.slice sa ss.length sc,.slice fa iH fc,.int .u64 t1.toNat,.int .i64 cG,.int .i64 dP,.int .i64 lN],bx N8 365 (tK.cs y)] U ?_;refine xL [0,1,2,3,4,5,6,7,8] ?_;refine xS ?_;have hmx:(if(t1.toNat:ae)<(y.f.lW.fQ.toNat:ae)then(y.f.lW.fQ.toNat:ae)else(t1.toNat:ae))=((aG9 t1 y.f.lW.fQ).toNat:ae):=by
      unfold aG9;split<;>split<;>omega
     rw[hmx,<-htj];refine xS ?_;exact ad7
    ·have PG:j=rs.length:=Ir;subst PG;rw[bV];refine xS ?_;refine X.dE (fE (p:=XF.ok ⟨q,pa,pc,ss,sa,sc,fa,fc,fx⟩ ⟨now,cap,steps,iH,Bb top rs,cG,dP,lN⟩) ⟨hp.now,hp.nil,hp.steps⟩ _) ?_;exact X.ret hb (.jf U cE .nil) ⟨_,⟨_,yN,⟨name,ea,_,ec,bad,hv,U⟩,U⟩,pB vS M _ U ⟨q,pa,pc,ss,sa,sc,fa,fc,fx⟩⟩
theorem N9{c₀:bc}{u:FrameMode}(h:c₀.mode=u):({c₀ with mode:=u}:bc)=c₀:=by cases c₀;simp_all
theorem V0(a b:aX):CallsD be 167 #[.pointer (aN a),.pointer (aN b)] .returning w λe u' w'=>u'=.returning/\(∃v,e=.returned v)/\w'=w:=by
 have h1:∀w:aV,(binOp BinOp.eql 20 .nilIface .nilIface).run be w=.ok (.bool aP) w:=λ_=>by kernel_rfl
 refine callsD_of_wpS Tryz.func167 U λc₀ cs hu=>?_;apply wpS_seq;apply wpS_region;simp[wpOpsS,go_sem,recoverD,hu,Tryz.ntmps167,Exit.thenS];refine wpS_of_wp (wp_block ?_);apply wp_seq;apply wp_region;simp[go_sem];simp[wpOps,go_sem,h1,eqGuard,Exit.then];refine .inl (wp_cond_true ad8 ?_);apply wp_region;simp[wpOps,go_sem,Exit.inBlock,bodyPostS];exact .inl ⟨(N9 hu).symm,⟨_,by simp[results];rfl⟩⟩
theorem V1(O:de)(w:aV)(x y:ab)(e:ae)(hs:Sat O [bx x 183 [.slice aO 0 0,.slice aO 0 0,.int .u64 0,.int .i64 0,.int .i64 0,.int .i64 0],bx y 23 [.int .i64 0]] w):
 CallsD be 167 #[bu x,bu y] (.panicking [pe (.iface 23 (.int .i64 e))]) w λen u' w'=>u'=.panicking [{v:=.iface 23 (.int .i64 e),recovered:=aP}]/\(∃v,en=.returned v)/\Sat O [bx y 23 [.int .i64 e],bx x 183 [.slice aO 0 0,.slice aO 0 0,.int .u64 0,.int .i64 0,.int .i64 0,.int .i64 0]] w':=by
 have h1:∀w:aV,(binOp BinOp.eql 20 (.iface 23 (.int .i64 e)) .nilIface).run be w=.ok (.bool aQ) w:=λ_=>by kernel_rfl
 have h2:∀w:aV,(Instr.typeAssert (.iface 23 (.int .i64 e)) 20 23 aP).run be w=.ok (.tuple #[.int .i64 e,.bool aP]) w:=λ_=>by kernel_rfl
 have h3:∀w:aV,(Instr.build 183 #[]).run be w=.ok (.agg #[.slice aO 0 0,.slice aO 0 0,.int .u64 0,.int .i64 0,.int .i64 0,.int .i64 0]) w:=λ_=>by kernel_rfl
 obtain⟨w1,MS,Es⟩:=hs.store (P:=be) (t:=183) (i:=0) (bS.refl _) (v:=.agg #[.slice aO 0 0,.slice aO 0 0,.int .u64 0,.int .i64 0,.int .i64 0,.int .i64 0]) U U U U
 obtain⟨w2,Rl,vQ⟩:=Es.store (P:=be) (t:=23) (b:=y) (i:=0) (v:=.int .i64 e) (eo _ _ _) U U U U
 refine callsD_of_wpS Tryz.func167 U λc₀ cs hu=>?_
 apply wpS_seq
 apply wpS_region
 simp[wpOpsS,go_sem,recoverD,hu,Tryz.ntmps167,Exit.thenS,pe]
 refine wpS_of_wp (wp_block ?_)
 apply wp_seq
 apply wp_region
 simp[go_sem]
 simp[wpOps,go_sem,h1,eqGuard,Exit.then]
 refine .inl (wp_cond_false ad8 ?_)
 apply wp_seq
 apply wp_region
 simp[go_sem]
 simp[wpOps,go_sem,h2,Oper.upon,aU]
 refine .inl (.inl (.inl (wp_cond_true ad8 ?_)))
 apply wp_seq
 apply wp_region
 simp[go_sem]
 simp[wpOps,go_sem,Oper.upon,aU,Exit.then]
 refine .inl ?_
 apply wp_region
 simp[go_sem]
 simp[wpOps,Region.wanted,Act.eval,Act.put,aU,Oper.wp,Oper.upon,h3,MS,Rl]
 refine .inl (.inl (.inl ?_))
 simp[Exit.inBlock,bodyPostS]
 exact .inl ⟨⟨_,by simp[results];rfl⟩,vQ⟩
abbrev z183:Y aR:=[.slice aO 0 0,.slice aO 0 0,.int .u64 0,.int .i64 0,.int .i64 0,.int .i64 0]
theorem ad9(x y:ab)(A:Y bG):TD0 be G 167 #[bu x,bu y] A A:=λO w _ hs=>
 (V0 w _ _).mono λe u' w' ⟨h1,h2,h3⟩=>⟨h1,h2,h3▸hs⟩
theorem N'(x y:ab)(e:ae):TP be G 167 #[bu x,bu y] (eV e) [bx x 183 z183,bx y 23 [.int .i64 0]] [bx y 23 [.int .i64 e],bx x 183 z183]:=λO w _ hs=>
 V1 O w x y e hs
structure Mk.le(m m':Mk)(d:ab):Prop where
 cG:m'.cG<=m.cG+d
 dP:m'.dP<=m.dP+d
 iH:m'.iH=m.iH
theorem oM{s:fY}(e:m.do s=.ok m'):m.le m' 0:=by
 unfold Mk.do at e;split at e
 ·cases e
 ·split at e
  ·cases e
  ·cases e;exact⟨bz _,bz _,U⟩
theorem Mk.le.trans{a b c:Mk}{d e:ab}(h:a.le b d)(k:b.le c e):a.le c (d+e):=⟨by have:=h.cG;have:=k.cG;omega,by have:=h.dP;have:=k.dP;omega,k.iH.trans h.iH⟩
theorem vX{d:Bs}(e:m.ahead nm d=.ok m'):m.le m' 0:=by
 unfold Mk.ahead at e;split at e
 ·cases e
 ·rename_i m1 h1;split at e
  ·cases e
  ·rename_i m2 h2;exact((oM h1).trans (oM h2)).trans (oM e)
theorem P2(e:m.yE j=.ok z):m.le z.1 0:=by
 unfold Mk.yE at e
 grind [vX]
theorem PO{b:Bs}{z:Mk×ae}(e:m.hint nm b=.ok z):m.le z.1 0:=by
 have hr:m.le m 0:=⟨bz _,bz _,U⟩
 grind [Mk.hint,vX,oM]
theorem Dg(hd:f.data.length<=4194304)(e:m.clean f=.ok m'):m.le m' 9000000:=by
 obtain⟨iP,gj⟩:=qe f.data;have zX:=Ba f.data (dL f.data) gj;have nC:=a'2 (dL f.data);have hexl:(dL f.data).length<=2*f.data.length+1:=by
  grind [uK,AK,nt,dL]
 have h0:m.le {m with cG:=m.cG+nF (dL f.data),dP:=m.dP+(EF f.data (dL f.data)).length} 9000000:=⟨by show m.cG+_<=_;omega,by show m.dP+_<=_;omega,U⟩;unfold Mk.clean at e;split at e
 ·cases e
 ·rename_i m2 h2;split at e
  ·cases e
  ·rename_i m3 h3;cases e;have h4:m.le m2 9000000:=by
    unfold Mk.pK at h2
    dsimp only at h2
    split at h2
    ·split at h2
     ·cases h2
     ·rename_i m4 h4;have h5:=h0.trans (P2 h4);split at h2
      ·exact h5.trans (oM h2)
      ·exact h5.trans (vX h2)
    grind
   have h5:=h4.trans (PO h3);exact⟨h5.cG,h5.dP,h5.iH⟩
def mj{α:Type}(f:Mk->α->aB ae Mk):Y α->Mk->aB ae Mk
 |[],m=>.ok m
 |x::r,m=>match f m x with
  |.error e=>.error e
  |.ok m'=>mj f r m'
def zB(m:Mk)(f:Eb):aB ae Mk:=m.do ⟨1,f.jE.name,[],[],0⟩
def s8(ts:Y av)(m:Mk)(f:Eb):aB ae Mk:=
 if f.no∈ts then .ok {m with iH:=m.iH+1}else match m.clean f.jE with
  |.error e=>.error e
  |.ok m'=>.ok {m' with iH:=m'.iH+1}
def sf(l:Y ca)(m:Mk)(f:Eb):aB ae Mk:=
 if 0<=jI l (gp f.jE.name).1 then .ok m else match m.do ⟨1,f.jE.name,[],[],0⟩with
  |.error e=>.error e
  |.ok m'=>.ok {m' with iH:=m'.iH+1}
def gV(l:Y ca)(cap:ae)(ts:Y av):aB ae Mk:=
 if cap<0\/cap>4194304\/mY l=aQ\/(cq l:ae)>cap then .error 110
 else match mj zB (yC 4 l) ⟨l,cap,[],0,0,0,0,cq l⟩with
  |.error e=>.error e
  |.ok m1=>match mj (s8 ts) (yC 1 l) m1 with
   |.error e=>.error e
   |.ok m2=>mj (sf l) (yC 2 l) m2
structure Mk.sd(m:Mk):Prop where
 cap:m.cap<=4194304
 st:∀s∈m.steps,s.data.length<=4194304
theorem rO{s:fY}(h:m.sd)(hs:s.op=2\/s.data=[])(e:m.do s=.ok m'):m'.sd:=by
 unfold Mk.do at e;split at e
 ·cases e
 ·rename_i l hl;split at e
  ·cases e
  ·rename_i h2;cases e;refine⟨h.cap,λx hx=>?_⟩;have hx:x∈m.steps++[s]:=hx;rcases du.1 hx with h3|h3
   ·exact h.st x h3
   ·rw[cK.1 h3]
    rcases hs with h4|h4
    ·unfold ke at hl;split at hl
     ·cases hl
     ·split at hl
      ·cases hl
      ·unfold wH at hl
       rw[aj bw,ao h4]at hl
       cases hl
       rw[wD]at h2
       have h5:=h.cap
       grind
    grind
theorem sR{d:Bs}(h:m.sd)(e:m.ahead nm d=.ok m'):m'.sd:=by
 unfold Mk.ahead at e;split at e
 ·cases e
 ·rename_i m1 h1;split at e
  ·cases e
  ·rename_i m2 h2;exact rO (rO (rO h (.inl U) h1) (.inr U) h2) (.inr U) e
theorem PS(h:m.sd)(e:m.yE j=.ok z):z.1.sd:=by
 unfold Mk.yE at e
 grind [sR]
theorem PY{b:Bs}{z:Mk×ae}(h:m.sd)(e:m.hint nm b=.ok z):z.1.sd:=by
 unfold Mk.hint at e
 split at e
 ·split at e
  ·grind
  ·dsimp only at e
   split at e
   ·grind [sR]
   ·split at e
    ·cases e
    ·rename_i m1 h1;cases e;exact rO h (.inr U) h1
 grind [sR]
theorem Mi(h:m.sd)(e:m.clean f=.ok m'):m'.sd:=by
 have h0:Mk.sd {m with cG:=m.cG+nF (dL f.data),dP:=m.dP+(EF f.data (dL f.data)).length}:=⟨h.cap,h.st⟩;unfold Mk.clean at e;split at e
 ·cases e
 ·rename_i m2 h2;split at e
  ·cases e
  ·rename_i m3 h3;cases e;have h4:m2.sd:=by
    unfold Mk.pK at h2
    dsimp only at h2
    split at h2
    ·split at h2
     ·cases h2
     ·rename_i m4 h4
      have h5:=PS h0 h4
      split at h2
      ·exact rO h5 (.inr U) h2
      grind [sR]
    grind
   have h5:=PY h4 h3;exact⟨h5.cap,h5.st⟩
theorem ye{α:Type}{f:Mk->α->aB ae Mk}{I:Mk->Prop}(hI:∀m x m',I m->f m x=.ok m'->I m'):∀(l:Y α) (m m':Mk),I m->mj f l m=.ok m'->I m'
 |[],m,m',h,e=>by cases e;exact h
 |x::r,m,m',h,e=>by
  unfold mj at e;split at e
  ·cases e
  ·rename_i m1 h1;exact ye hI r m1 m' (hI _ _ _ h h1) e
theorem yg{l:Y ca}{cap:ae}{ts:Y av}{m:Mk}(e:gV l cap ts=.ok m):m.sd:=by
 unfold gV at e;split at e
 ·cases e
 ·rename_i hg;split at e
  ·cases e
  ·rename_i m1 h1;split at e
   ·cases e
   ·rename_i m2 h2;have k0:Mk.sd ⟨l,cap,[],0,0,0,0,cq l⟩:=⟨by grind,λs hs=>by cases hs⟩;have k1:=ye (I:=Mk.sd) (λm x m' h e=>rO h (.inr U) e) _ _ _ k0 h1;have k2:=ye (I:=Mk.sd) (λm x m' h e=>by
     unfold s8 at e;split at e
     ·cases e;exact⟨h.cap,h.st⟩
     ·split at e
      ·cases e
      ·rename_i m3 h3;cases e;have:=Mi h h3;exact⟨this.cap,this.st⟩) _ _ _ k1 h2
    exact ye (I:=Mk.sd) (λm x m' h e=>by
     unfold sf at e
     split at e
     ·grind
     ·split at e
      ·cases e
      ·rename_i m3 h3;cases e;have:=rO h (.inr U) h3;exact⟨this.cap,this.st⟩) _ _ _ k2 e
def a'4(r:aB ae Mk)(v:aR)(B:Y bG):Prop:=match r with
 |.error e=>v=.tuple #[.agg z183.toArray,.int .i64 e]/\B=[]
 |.ok m=>∃ss:Y (WB fY),∃sa sc fa fc fx,ss.map (·.1)=m.steps/\v=.tuple #[.agg #[.slice sa ss.length sc,.slice fa m.iH fc,.int .u64 m.top.toNat,.int .i64 m.cG,.int .i64 m.dP,.int .i64 m.lN],.int .i64 0]/\B=[own 266 5 sa ss.length sc (ss.flatMap eG),eQ fY.data ss,own 270 5 fa m.iH fc fx]
theorem P8{P:aT}{b:bc}{κ:Type}(pred:κ->α->bG)(key:κ)(x:α){ι:Type}{f:ι->Y bG}(hd:pred key x=ex f)(i:ι){rest:Y bG}[he:EM H (f i) rest](h:X P b O cc k E (pred key x::rest) R):X P b O cc k E H R:=
 X.dE (he.out.trans (hd▸iY i rest)) h
abbrev mk0(q:Y (WB ca))(cap:ae):Mk:=⟨q.map (λx=>x.1),cap,[],0,0,0,0,cq (q.map (λx=>x.1))⟩
theorem zC(f:Mk->α->aB ae Mk)(x:α)(r:Y α)(m:Mk):mj f (x::r) m=(match f m x with|.error e=>.error e|.ok m'=>mj f r m'):=rfl
theorem Li(cap:ae)(a:ah aX)(n c:ab)(q:Y (WB ca))(hn:q.length=n)(hs:n<=60000000000)(h0:a=aO->n=0/\c=0)(hu:cq (q.map (·.1))<=1000000000000)(ta:ah aX)(tn tc:ab)(ts:Y av)(htn:ts.length=tn)(hts:tn<=1000000000000):
 TR be GG 121 #[.slice a n c,.int .i64 cap,.slice ta tn tc] [dp (cy bY) 2 a q,eQ ca.data q,dp RU 1 ta ts] (dC (a'4 (gV (q.map (·.1)) cap ts))):=by
 subst hn
 refine jy U λb O hb hG=>?_
 have hplsd:=@yg (q.map (·.1)) cap ts
 generalize cD:gV (q.map (·.1)) cap ts=res at*
 unfold gV at cD
 refine xA ?_
 intro b6
 refine xA ?_
 intro b7
 refine xT 24 ?_ ?_<;>intro h1
 ·have h1:cap<0:=bQ;rw[ao (.inl h1)]at cD;exact aH1
 have h1:¬cap<0:=bQ
 refine xT 28 ?_ ?_<;>intro h2
 ·have h2:cap>4194304:=bQ;rw[ao (.inr (.inl h2))]at cD;exact aH1
 have h2:¬cap>4194304:=bQ
 refine xJ (TO GG a _ c q U bw bw) ?_
 refine xT 33 ?_ ?_<;>intro h3
 ·have h3:mY (q.map (·.1))=aQ:=bQ;rw[ao (.inr (.inr (.inl h3)))]at cD;exact aH1
 have h3:mY (q.map (·.1))=aP:=bQ
 refine xJ (r9 GG a _ c q U bw bw) ?_
 refine xB ?_ ?_<;>intro h4
 ·have h4:(cq (q.map (·.1)):ae)>cap:=bQ;rw[ao (.inr (.inr (.inr h4)))]at cD;exact aH1
 have h4:¬(cq (q.map (·.1)):ae)>cap:=bQ
 rw[aj bQ]at cD
 have uT:∀f∈q.map (·.1),eO f.name=aP:=by
  grind [mY]
 have ae2:∀x∈q,x.1.data.length<=4194304:=by
  intro x hx;obtain⟨i,hi,rfl⟩:=List.mem_iff_getElem.1 hx;have h1:=qA (q.map (·.1)) i K5;have h2:=ub (q.map (·.1)) (i+1);rw[gG]at h1;omega
 have vP:∀x∈q,x.1.name.length<=1000:=aH2
 refine xS ?_
 refine Yp (fst:=[]) (us:=[]) (cap:=[bu b6,bu b7]) hb U U U  ?_
 refine xJ (r9 GG a _ c q U bw bw) ?_
 refine xP ?_
 intro M
 refine X.dE (fh 266 5 _) ?_
 refine X.dE (fh 270 5 _) ?_
 refine S3 fY.data ?_
 refine X.dE (fE (p:=XF.ok ⟨q,a,c,[],aO,0,aO,0,[]⟩ (mk0 q cap)) ⟨U,h0,U⟩ _) ?_
 have hm0:Mk.ok (mk0 q cap) q.length:=⟨by simp,by simp,by grind,by grind,uT⟩
 refine X.dE (Hs':=[pu (XF.ok ⟨q,a,c,[],aO,0,aO,0,[]⟩ (mk0 q cap)),eQ fY.data [],own 270 5 aO (mk0 q cap).iH 0 [],own 266 5 aO ([]:Y (WB fY)).length 0 (([]:Y (WB fY)).flatMap eG),bx M 258 ((mk0 q cap).cs ⟨q,a,c,[],aO,0,aO,0,[]⟩),bx b7 23 [.int .i64 0],bx b6 183 z183,dp (cy bY) 2 a q,eQ ca.data q,dp RU 1 ta ts]) (bS.refl _) ?_
 refine P8 vS M (mk0 q cap) U ⟨q,a,c,[],aO,0,aO,0,[]⟩ ?_
 have a'5:(mk0 q cap).iH=0:=U
 have hfr0:(mk0 q cap).cG=0:=U
 have hju0:(mk0 q cap).dP=0:=U
 have hM0:(⟨q.map (·.1),cap,[],0,0,0,0,cq (q.map (·.1))⟩:Mk)=mk0 q cap:=U
 rw[hM0]at cD
 clear hM0
 generalize mk0 q cap=m0 at*
 refine cM hG (K7 4 a _ c q U bw (λx hx=>by grind)) U U U eC ?_
 rintro v B ⟨a4,c4,rfl,rfl⟩
 dsimp only[bh,bk,bj]
 have hQl:(mZ 4 q).length<=q.length:=aG4
 rw[<-x7]at cD
 have hQn:∀x∈mZ 4 q,x.1.jE.name.length<=1000:=λx hx=>vP _ (pJ hx)
 generalize mZ 4 q=Q at*
 refine dR a4 mD Q U U (λ_=>rfl) λ_=>xS ?_
 generalize Lj:mj zB (Q.map (·.1)) m0=r1 at*
 refine fR [2,6,7,8,9,49] [2,1] (ι:={z:ab×Mk // z.1<=Q.length/\z.2.ok (q.length+z.1)/\mj zB ((Q.map (·.1)).drop z.1) z.2=r1/\z.2.cG=0/\z.2.dP=0/\z.2.iH=0}) (λz q_=>(50,bR Q.length)::(51,bR z.1.1)::q_) (λz q_=>vS M z.1.2::q_) (λz=>Q.length - z.1.1) ⟨(0,m0),bp _,hm0,by simpa using Lj,hfr0,hju0,a'5⟩ ?_
 clear Lj hfr0 hju0 a'5 hm0
 rintro⟨⟨i,m⟩,hi,CD,hf,hmf,hmj,hma⟩ ih
 dsimp only at hi CD hf hmf hmj hma ⊢
 refine xB ?_ ?_<;>intro h5
 ·have hi:i<Q.length:=bQ;rw[oD _ _ _ hi,zC]at hf;have hxn:=hQn _ (bE hi);refine xS ?_;refine dJ U U U U U hi U λbl o=>?_;generalize Q[i]=x at*;refine xS ?_;refine eT U U U U  ?_;refine xA ?_;intro yP;refine yL fY.data ⟨1,x.1.jE.name,[],[],0⟩ U ?_;refine v7 (us1:=[]) (cap1:=[bu b6,bu b7]) hG hb (GC GG M m (⟨1,x.1.jE.name,[],[],0⟩,aO,0) (bo CD.now bw) (bo CD.steps bw) (by have:=CD.used;simp;omega)) U U U eC (λe he=>?_) ?_
  ·unfold zB at hf;rw[he]at hf;subst hf;exact a'8
  ·rintro m1 qM v B ⟨rfl,rfl⟩;have CE:=km CD qM;have hle:=oM qM;have g1:=hle.cG;have g2:=hle.dP;have g3:=hle.iH;unfold zB at hf;rw[qM]at hf;refine xD ?_;exact X.W (ih ⟨(i+1,m1),by omega,CE,hf,by grind,by grind,by grind⟩ bQ)
 have gj:i=Q.length:=bQ
 subst gj
 rw[cx dW]at hf
 have hf:Except.ok m=r1:=hf
 subst hf
 dsimp only at cD
 clear hi ih h5 hQn
 refine xS ?_
 refine cM hG (K7 1 a _ c q U bw (λx hx=>by grind)) U U U eC ?_
 rintro v B ⟨a63,c63,rfl,rfl⟩
 dsimp only[bh,bk,bj]
 have hQl1:(mZ 1 q).length<=q.length:=aG4
 rw[<-x7 1 q]at cD
 have hQn:∀x∈mZ 1 q,x.1.jE.name.length<=1000:=λx hx=>vP _ (pJ hx)
 have hQd:∀x∈mZ 1 q,x.1.jE.data.length<=4194304:=λx hx=>ae2 _ (pJ hx)
 refine Db (data:=ca.data) (λx:Eb=>x.jE.data) q (mZ 1 q) (λy hy=>⟨_,pJ hy,y.1.jE.data.length,U,by rw[bV]⟩) ?_
 generalize mZ 1 q=Q1 at*
 refine dR a63 mD Q1 U U (λ_=>rfl) λ_=>xS ?_
 generalize hr2:mj (s8 ts) (Q1.map (·.1)) m=r2 at*
 refine X.loop (ι:={z:ab×Mk // z.1<=Q1.length/\z.2.ok (2*q.length+9*z.1)/\mj (s8 ts) ((Q1.map (·.1)).drop z.1) z.2=r2/\z.2.cG<=9000000*z.1/\z.2.dP<=9000000*z.1/\z.2.iH=z.1}) (λz=>([(2,.slice ta tn tc),(6,bu b6),(7,bu b7),(8,.slice a q.length c),(9,bu M),(63,.slice a63 Q1.length c63),(64,bR Q1.length),(65,bR z.1.1)],[vS M z.1.2,bx b6 183 z183,bx b7 23 [.int .i64 0],dp (cy mD) 3 a63 Q1,eQ (λx:Eb=>x.jE.data) Q1,dp (cy bY) 2 a q,eQ ca.data q,dp RU 1 ta ts])) (λz=>Q1.length - z.1.1) ⟨(0,m),bp _,CD.mono bw,by simpa using hr2,by dsimp only;omega,by dsimp only;omega,hma⟩ (Sub.of U) bA ?_
 clear hr2 CD hmf hmj hma
 rintro⟨⟨i,m⟩,hi,CD,hf,hmf,hmj,hma⟩ ih
 dsimp only at hi CD hf hmf hmj hma ⊢
 refine xB ?_ ?_<;>intro h5
 ·have hi:i<Q1.length:=bQ
  rw[oD _ _ _ hi,zC]at hf
  have hxm:=bE hi
  have hxn:=hQn _ hxm
  have hxd:=hQd _ hxm
  refine Db (data:=λx:Eb=>x.jE.data) ca.data Q1 [((Q1[i].1.jE,Q1[i].2):WB ca)] (λy hy=>by grind [bV]) (xS ?_)
  refine dJ U U U U U hi U λbl o=>?_
  generalize Q1[i]=x at*
  refine xS ?_
  refine eT U U U U  ?_
  refine xA ?_
  intro Ic
  refine xA ?_
  intro N8
  refine xJ (Zm GG ta tn tc ts x.1.no htn bw) ?_
  have jv:ts.contains x.1.no=decide (x.1.no∈ts):=by simp[List.contains_eq_mem]
  rw[jv]
  refine xS ?_
  refine iK (ι:={z:Mk×Bs×ah aX×ab×ab×Bs×ae // (if x.1.no∈ts then Except.ok m else m.clean x.1.jE)=.ok z.1}) (λz=>([(2,.slice ta tn tc),(6,bu b6),(7,bu b7),(8,.slice a q.length c),(9,bu M),(14,bu N8),(63,.slice a63 Q1.length c63),(64,bR Q1.length),(65,bR i)],[vS M z.1.1,bx N8 270 [bn z.1.2.1,.int .i64 1,.slice z.1.2.2.1 z.1.2.2.2.1 z.1.2.2.2.2.1,bn z.1.2.2.2.2.2.1,.int .i64 z.1.2.2.2.2.2.2],bx b6 183 z183,bx b7 23 [.int .i64 0],dp (cy mD) 3 a63 Q1,eQ (λx:Eb=>x.jE.data) Q1,dp (cy bY) 2 a q,eQ ca.data q,dp RU 1 ta ts])) ?fin ?main
  case main=>
   intro KK dF;by_cases gj:x.1.no∈ts
   ·refine bD 77 aQ U (by simp[gj]) (xS ?_);exact X.W (dF ⟨(m,x.1.jE.name,aO,0,0,[],1),by rw[ao gj]⟩)
   ·refine bD 77 aP U (by simp[gj]) (xS ?_);refine v7 (us1:=[]) (cap1:=[bu b6,bu b7]) hG hb (ad5 M (2*q.length+9*i) m ((x.1.jE,x.2):WB ca) CD bw hxn hxd bw bw) U U U eC (λe he=>?_) ?_
    ·unfold s8 at hf;rw[aj gj,he]at hf;subst hf;exact a'8
    ·rintro m1 qM v B ⟨⟨nm,ea,en,ec,bad,hv,rfl⟩,rfl⟩;refine xD ?_;exact X.W (dF ⟨(m1,nm,ea,en,ec,bad,hv),by grind⟩)
  case fin=>
   rintro⟨⟨m1,nm,ea,en,ec,bad,hv⟩,qM⟩;dsimp only at qM ⊢;have CE:m1.ok (2*q.length+9*(i+1)):=by
    split at qM
    ·cases qM;exact CD.mono bw
    grind [yI]
   have hle:m.le m1 9000000:=by
    split at qM
    ·cases qM;exact⟨by omega,by omega,U⟩
    grind [Dg]
   have g1:=hle.cG;have g2:=hle.dP;have g3:=hle.iH;have hseg:s8 ts m x.1=.ok {m1 with iH:=m1.iH+1}:=by
    grind [s8]
   rw[hseg]at hf;refine X.l8 vS M U λp=>?_;obtain⟨q',pa,pc,ss,sa,sc,fa,fc,fx⟩:=p;obtain⟨now,GF,steps,iH,top,cG,dP,lN⟩:=m1;dsimp only[bh,bk,Mk.cs]at*;refine mF λhp=>xS ?_;refine fG (sG [0,1,2,3,4,5,6,7]) [bx M 258 [.slice pa q'.length pc,.int .i64 GF,.slice sa ss.length sc,.slice fa iH fc,.int .u64 top.toNat,.int .i64 cG,.int .i64 dP,.int .i64 lN],bx N8 270 [bn nm,.int .i64 1,.slice ea en ec,bn bad,.int .i64 hv]] U ?_;refine xL [0,1,2,3,4,5,6,7] ?_;refine xZ ?_;intro b90;refine uy U U U U cE cE cE cE bw λa91 c91=>xS ?_;refine X.dE (fE (p:=XF.ok ⟨q',pa,pc,ss,sa,sc,a91,c91,fx++[bn nm,.int .i64 1,.slice ea en ec,bn bad,.int .i64 hv]⟩ ⟨now,GF,steps,iH+1,top,cG,dP,lN⟩) ⟨hp.now,hp.nil,hp.steps⟩ _) ?_;refine P8 vS M ⟨now,GF,steps,iH+1,top,cG,dP,lN⟩ U ⟨q',pa,pc,ss,sa,sc,a91,c91,fx++[bn nm,.int .i64 1,.slice ea en ec,bn bad,.int .i64 hv]⟩ ?_;exact X.W (ih ⟨(i+1,⟨now,GF,steps,iH+1,top,cG,dP,lN⟩),by omega,⟨CE.now,CE.steps,CE.used,CE.cap,CE.names⟩,hf,by grind,by grind,by grind⟩ bQ)
 have gj:i=Q1.length:=bQ
 subst gj
 rw[cx dW]at hf
 have hf:Except.ok m=r2:=hf
 subst hf
 dsimp only at cD
 clear hi ih h5 hQn hQd
 refine xS ?_
 refine cM hG (K7 2 a _ c q U bw (λx hx=>by grind)) U U U eC ?_
 rintro v B ⟨a98,c98,rfl,rfl⟩
 dsimp only[bh,bk,bj]
 have hQl2:(mZ 2 q).length<=q.length:=aG4
 rw[<-x7 2 q]at cD
 have hQn:∀x∈mZ 2 q,x.1.jE.name.length<=1000:=λx hx=>vP _ (pJ hx)
 generalize mZ 2 q=Q2 at*
 refine dR a98 mD Q2 U U (λ_=>rfl) λ_=>xS ?_
 refine X.loop (ι:={z:ab×Mk // z.1<=Q2.length/\z.2.ok (11*q.length+z.1)/\mj (sf (q.map (·.1))) ((Q2.map (·.1)).drop z.1) z.2=res/\z.2.iH<=q.length+z.1}) (λz=>([(6,bu b6),(7,bu b7),(8,.slice a q.length c),(9,bu M),(98,.slice a98 Q2.length c98),(99,bR Q2.length),(100,bR z.1.1)],[vS M z.1.2,bx b6 183 z183,bx b7 23 [.int .i64 0],dp (cy mD) 3 a98 Q2,dp (cy bY) 2 a q,eQ ca.data q])) (λz=>Q2.length - z.1.1) ⟨(0,m),bp _,CD.mono bw,by simpa using cD,by dsimp only;omega⟩ (Sub.of U) bA ?_
 clear cD CD hmf hmj hma
 rintro⟨⟨i,m⟩,hi,CD,hf,hma⟩ ih
 dsimp only at hi CD hf hma ⊢
 refine xB ?_ ?_<;>intro h5
 ·have hi:i<Q2.length:=bQ;rw[oD _ _ _ hi,zC]at hf;have hxm:=bE hi;have hxn:=hQn _ hxm;refine xS ?_;refine dJ U U U U U hi U λbl o=>?_;generalize Q2[i]=x at*;refine xS ?_;refine eT U U U U  ?_;refine xA ?_;intro b16;refine xJ (xY x.1.jE.name bw) ?_;refine xJ (xX GG a _ c q (gp x.1.jE.name).1 U bw) ?_;unfold sf at hf;refine yB (¬0<=jI (q.map (·.1)) (gp x.1.jE.name).1) (0<=jI (q.map (·.1)) (gp x.1.jE.name).1) ?_ ?_<;>intro h6
  ·rw[aj h6]at hf;refine xS ?_;refine yL fY.data ⟨1,x.1.jE.name,[],[],0⟩ U ?_;refine v7 (us1:=[]) (cap1:=[bu b6,bu b7]) hG hb (GC GG M m (⟨1,x.1.jE.name,[],[],0⟩,aO,0) (bo CD.now bw) (bo CD.steps bw) (by have:=CD.used;simp;omega)) U U U eC (λe he=>?_) ?_
   ·rw[he]at hf;subst hf;exact⟨_,_,_,_,_,N' GG b6 b7 e,bS.es,.jf U cE (.cell U cE .nil),⟨U,U⟩,bS.nil _⟩
   ·rintro m1 qM v B ⟨rfl,rfl⟩;have CE:=km CD qM;have g3:=(oM qM).iH;rw[qM]at hf;dsimp only[bh,bk,bj];refine X.l8 vS M U λp=>?_;obtain⟨q',pa,pc,ss,sa,sc,fa,fc,fx⟩:=p;obtain⟨now,GF,steps,iH,top,cG,dP,lN⟩:=m1;dsimp only[bh,bk,Mk.cs]at*;refine mF λhp=>xS ?_;refine fU 11 [0,7] ?_;refine xL [0,1,2,3,4,5,6,7,8,9,10] ?_;refine xZ ?_;intro b90;refine uy U U U U cE cE cE cE bw λa91 c91=>xS ?_;refine X.dE (fE (p:=XF.ok ⟨q',pa,pc,ss,sa,sc,a91,c91,fx++[bn x.1.jE.name,.int .i64 2,.slice aO 0 0,bn [],.int .i64 6]⟩ ⟨now,GF,steps,iH+1,top,cG,dP,lN⟩) ⟨hp.now,hp.nil,hp.steps⟩ _) ?_;refine P8 vS M ⟨now,GF,steps,iH+1,top,cG,dP,lN⟩ U ⟨q',pa,pc,ss,sa,sc,a91,c91,fx++[bn x.1.jE.name,.int .i64 2,.slice aO 0 0,bn [],.int .i64 6]⟩ ?_;exact X.W (ih ⟨(i+1,⟨now,GF,steps,iH+1,top,cG,dP,lN⟩),by omega,⟨CE.now,CE.steps,CE.used,CE.cap,CE.names⟩,hf,by grind⟩ bQ)
  ·rw[ao h6]at hf;refine xS ?_;exact X.W (ih ⟨(i+1,m),by omega,CD.mono bw,hf,by grind⟩ bQ)
 have gj:i=Q2.length:=bQ
 subst gj
 rw[cx dW]at hf
 have hf:Except.ok m=res:=hf
 subst hf
 clear hi ih h5 hQn
 refine X.l8 vS M U λp=>?_
 obtain⟨q',pa,pc,ss,sa,sc,fa,fc,fx⟩:=p
 obtain⟨now,GF,steps,iH,top,cG,dP,lN⟩:=m
 dsimp only[bh,bk,Mk.cs]at*
 refine mF λhp=>?_
 have hpm:=hp.steps
 dsimp only at hpm
 have hssl:ss.length<=1000000000000:=by
  have h6:=CD.steps
  grind
 refine xS ?_
 refine X.loop (ι:={z:ab×Y (WB fY) // z.1<=ss.length/\z.2.map (·.1)=steps/\z.2.length=ss.length/\z.2.drop z.1=ss.drop z.1}) (λz=>([(6,bu b6),(7,bu b7),(9,bu M),(143,.slice sa ss.length sc),(144,bR ss.length),(145,bR z.1.1)],[own 266 5 sa ss.length sc (z.1.2.flatMap eG),eQ fY.data z.1.2,bx M 258 [.slice pa q'.length pc,.int .i64 GF,.slice sa ss.length sc,.slice fa iH fc,.int .u64 top.toNat,.int .i64 cG,.int .i64 dP,.int .i64 lN],own 270 5 fa iH fc fx,bx b6 183 z183,bx b7 23 [.int .i64 0]])) (λz=>ss.length - z.1.1) ⟨(0,ss),bp _,hpm,U,U⟩ (Sub.of U) bA ?_
 rintro⟨⟨i,sq⟩,hi,qK,qN,Qv⟩ ih
 dsimp only at hi qK qN Qv ⊢
 refine xB ?_ ?_<;>intro h5
 ·have hi:i<sq.length:=bQ;have hsb:sq[i].1.data.length<=1000000000000:=by
   have h6:=(hplsd U).st sq[i].1 bQ;omega
  refine gZ sa bw λg hg=>?_;subst hg;refine nH (data:=fY.data) sq sq[i] (bE hi) λjT mX=>xS ?_;refine eA U U U U U bw (xS ?_);refine ja (cC:=eG) (l:=sq) i U U U U (λ_=>rfl) bw hi  ?_;refine xA ?_;intro b20;refine fG (sG [0,1,2,3,4,5,6,7]) [bx M 258 [.slice pa q'.length pc,.int .i64 GF,.slice (aN ⟨g,0,aO⟩) ss.length sc,.slice fa iH fc,.int .u64 top.toNat,.int .i64 cG,.int .i64 dP,.int .i64 lN],bx b20 266 (eG sq[i])] U ?_;refine xL [0,1,2,3,4,5,6,7] ?_;refine xS ?_;refine cM hG (Jq GG sq[i].2.1 _ sq[i].2.2 sq[i].1.data U mX hsb) U U U eC ?_;rintro v B ⟨a8,c8,⟨k5,k6⟩,rfl,rfl⟩;refine xD ?_;refine eA U U U U U bw (xS ?_);refine E3 (cC:=eG) (l:=sq) i 3 ((sq[i].1,a8,c8):WB fY) (λ_=>rfl) U U U U (λ_=>rfl) bw hi eK U U ?_;refine Mr fY.data sq[i].1 a8 c8 k5 k6 ?_;refine Ak (data:=fY.data) sq [((sq[i].1,a8,c8):WB fY)] ?_;refine qW (data:=fY.data) (sq++[((sq[i].1,a8,c8):WB fY)]) (sq.set i (sq[i].1,a8,c8)) (λy hy=>by
   grind) ?_
  have k7:(sq.set i (sq[i].1,a8,c8)).map (·.1)=steps:=by
   rw[<-qK,fL]
   apply List.ext_getElem dW
   grind
  have k8:(sq.set i (sq[i].1,a8,c8)).drop (i+1)=ss.drop (i+1):=by
   rw[List.drop_set_of_lt bw];have:=aH (List.drop 1) Qv;rw[List.drop_drop,List.drop_drop]at this;rw[this]
  have k9:(sq.set i (sq[i].1,a8,c8)).length=ss.length:=bQ;generalize sq.set i (sq[i].1,a8,c8)=sq2 at*;refine xS ?_;exact X.W (ih ⟨(i+1,sq2),by omega,k7,k9,k8⟩ bQ)
 refine xS ?_
 rw[<-qN]
 exact SO (us:=[]) (cap:=[bu b6,bu b7]) hb hG (ad9 GG b6 b7 []) (.jf U cE (.cell U cE .nil)) ⟨_,⟨sq,sa,sc,fa,fc,fx,qK,U,U⟩,bA⟩
theorem X3(F:Y bG):VS (kL x::F) (eQ ca.data [x]::F):=λO w hs=>by
 have hc:=I9 hs (bS.refl _);have h0:kL x=own 5 1 x.2.1 x.1.data.length x.2.2 (x.1.data.flatMap λx=>[gT x]):=by grind [kL,lP]
 exact bL0
theorem E8:∀(q:Y (WB ca)) (F:Y bG),VS (q.map kL++F) (eQ ca.data q::F)
 |[],F=>λO w hs=>hs.dE λ_ o ir=>⟨gI,o,ef _,dQ _,.refl _,λ_ _ x hx=>vE,ir⟩
 |x::q,F=>λO w hs=>by
  have h1:=X3 x (q.map kL++F) O w hs;have h2:=h1.dE (ew (b:=q.map kL++(eQ ca.data [x]::F)) (gF.symm));have h3:=E8 q _ O w h2;exact a'9
theorem pX{l:Y ca}{b:bc}{F:Y bG}[hf:FP H (zi a c l) F](h:∀q:Y (WB ca),q.map (·.1)=l->q.length<=c->(a=aO->q.length=0/\c=0)->X be b O cc k E (dp (cy bY) 2 a q::eQ ca.data q::F) R):X be b O cc k E H R:=
 j9 λw hs=>by
  obtain⟨q,h1⟩:=jB (hs.dE hf.out);obtain⟨rfl,h2⟩:=lR h1;rw[bF]at h2;have hc:=I9 h2 (bS.refl _);have h3:=VS.freeze (cC:=bY) _ U (λ_=>rfl) O w h2;have h4:=h3.dE ((eo _ _ _).trans (iR _ _));have h5:=E8 q _ O w h4;refine⟨_,h5.dE (eo _ _ _),h q U ?_ ?_⟩;all_goals grind
instance:XD be 411 6 275:=⟨Tryz.underlying411⟩
def cd.write(s:cd)(name data:Bs):cd×ae:=
 if(s.create name).2≠0\/data.length=0 then s.create name else(s.create name).1.append name data
def cd.step(s:cd)(st:fY):cd×ae:=
 if st.op=1 then s.remove st.name else if st.op=2 then s.write st.name st.data else if st.op=3 then s.sync st.name
 else if st.op=4 then s.rename st.name st.vG else s.truncate st.name st.n
def Ju(D:ab)(r:cd×ae)(v:aR)(B:Y bG):Prop:=v=.int .i64 r.2/\B=[cJ D r.1]
theorem ae3:TR be G 272 #[bu D,.agg (eG st).toArray] [cJ D s] (dC (Ju D (s.remove st.1.name))):=by
 refine bZ U λb O hb hG=>?_;refine xP ?_;intro b3;refine cP (Ra G D s st.1.name) ?_;exact Oa
theorem ae4:TR be G 275 #[bu D,.agg (eG st).toArray] [cJ D s] (dC (Ju D (s.sync st.1.name))):=by
 refine bZ U λb O hb hG=>?_;refine xP ?_;intro b3;refine cP (Gs G D s st.1.name) ?_;exact Oa
theorem ae5:TR be G 276 #[bu D,.agg (eG st).toArray] [cJ D s] (dC (Ju D (s.rename st.1.name st.1.vG))):=by
 refine bZ U λb O hb hG=>?_;refine xP ?_;intro b3;refine cP (Rb G D s st.1.name st.1.vG) ?_;exact Oa
theorem ae6:TR be G 278 #[bu D,.agg (eG st).toArray] [cJ D s] (dC (Ju D (s.truncate st.1.name st.1.n))):=by
 refine bZ U λb O hb hG=>?_;refine xP ?_;intro b3;refine cP (K' G D s st.1.name st.1.n) ?_;exact Oa
theorem ae7(hd:st.1.data.length<=1000000000000):TR be G 274 #[bu D,.agg (eG st).toArray] [cJ D s,eQ fY.data [st]] (dC (Ju D (s.write st.1.name st.1.data))):=by
 refine bZ U λb O hb hG=>?_;have hw:s.write st.1.name st.1.data=if(s.create st.1.name).2≠0\/st.1.data.length=0 then s.create st.1.name else(s.create st.1.name).1.append st.1.name st.1.data:=U;generalize s.write st.1.name st.1.data=res at*;refine nH (data:=fY.data) [st] st (cK.2 U) λjT mX=>?_;refine xP ?_;intro b3;refine xI (Gr G D s st.1.name) ?_;generalize s.create st.1.name=cr at*;obtain⟨s1,e1⟩:=cr;dsimp only at*;refine xD ?_;refine yT 12 (e1≠0) (e1=0) ?_ ?_<;>intro h1
 ·rw[ao (.inl h1)]at hw;subst hw;exact xR
 ·refine yB (st.1.data.length=0) (¬st.1.data.length=0) ?_ ?_<;>intro h2
  ·rw[ao (.inr h2)]at hw;subst hw;exact xR
  ·rw[aj bw]at hw;refine xI (Gt G D s1 st.1.name st.2.1 _ st.2.2 st.1.data U hd) ?_;rw[<-hw];refine xD ?_;exact xR
theorem ae8(h1:1<=so)(h5:so<=5):∃fb,∃j:ab,so=j/\j<6/\[Value.nilFunc,zY 272,zY 274,zY 275,zY 276,zY 278][j*1]?=aN (zY fb)/\∃_:CF be fb,∀(D:ab) (s:cd) (st:WB fY),st.1.op=so->st.1.data.length<=1000000000000->
 TR be G fb #[bu D,.agg (eG st).toArray] [cJ D s,eQ fY.data [st]] (dC (Ju D (s.step st.1))):=by
 have Cl:∀D s st,bS [cJ D s,eQ fY.data [st]] [cJ D s]:=λD s st=>ia [cJ D s] [eQ fY.data [st]]
 have:so=1\/so=2\/so=3\/so=4\/so=5:=bw
 rcases this with rfl|rfl|rfl|rfl|rfl
 ·refine⟨272,1,U,by decide,U,ax,λD s st ho hd=>?_⟩;have:s.step st.1=s.remove st.1.name:=Rn;rw[this];exact(ae3 G D s st).eY (Cl D s st) λ_ B h=>⟨B,h,bS.refl _⟩
 ·refine⟨274,2,U,by decide,U,ax,λD s st ho hd=>?_⟩
  have:s.step st.1=s.write st.1.name st.1.data:=Rn
  grind [ae7]
 ·refine⟨275,3,U,by decide,U,ax,λD s st ho hd=>?_⟩;have:s.step st.1=s.sync st.1.name:=Rn;rw[this];exact(ae4 G D s st).eY (Cl D s st) λ_ B h=>⟨B,h,bS.refl _⟩
 ·refine⟨276,4,U,by decide,U,ax,λD s st ho hd=>?_⟩;have:s.step st.1=s.rename st.1.name st.1.vG:=Rn;rw[this];exact(ae5 G D s st).eY (Cl D s st) λ_ B h=>⟨B,h,bS.refl _⟩
 ·refine⟨278,5,U,by decide,U,ax,λD s st ho hd=>?_⟩;have:s.step st.1=s.truncate st.1.name st.1.n:=Rn;rw[this];exact(ae6 G D s st).eY (Cl D s st) λ_ B h=>⟨B,h,bS.refl _⟩
theorem aH3(j fb:ab)(hj:so=j)(hj6:j<6)(hf:[Value.nilFunc,zY 272,zY 274,zY 275,zY 276,zY 278][j*1]?=aN (zY fb)):TR be G 175 #[.int .i64 so] [] (dX (zY fb)):=by
 refine dH U λb O hb hG=>xS ?_;refine XO U U cE cE (xS ?_);refine bm2 U U U U hj hj6 hf  ?_;exact xR
def cd.run:cd->Y fY->ab->cd×ab×ae
 |s,[],i=>(s,i,0)
 |s,x::r,i=>if(s.step x).2≠0 then((s.step x).1,i,(s.step x).2)else cd.run (s.step x).1 r (i+1)
def cd.nO(s:cd)(ss:Y fY):cd×ab×ae:=if ss.any (λx=>decide (x.op<1)||decide (x.op>5))=aP then(s,0,110)else s.run ss 0
end
section
variable{e:ae}{m:Mk}{fs:uc}(l:Y ca)(G:dA)(K:ab)(d:fu)(key:Bs)(D:ab)(s:cd)
theorem Kh(x:fY)(r:Y fY)(i:ab):s.run (x::r) i=if(s.step x).2≠0 then((s.step x).1,i,(s.step x).2)else cd.run (s.step x).1 r (i+1):=rfl
theorem Ll(a:ah aX)(m c:ab)(ss:Y (WB fY))(hm:ss.length=m)(hs:m<=1000000000000)(hd:∀x∈ss,x.1.data.length<=1000000000000):
 TR be G 122 #[bu D,.slice a m c] [cJ D s,dp (cy eG) 5 a ss,eQ fY.data ss] (dC λv B=>v=.tuple #[.int .i64 (s.nO (ss.map (·.1))).2.1,.int .i64 (s.nO (ss.map (·.1))).2.2]/\B=[cJ D (s.nO (ss.map (·.1))).1]):=by
 subst hm
 refine bZ U λb O hb hG=>?_
 have PC:s.nO (ss.map (·.1))=if(ss.map (·.1)).any (λx=>decide (x.op<1)||decide (x.op>5))=aP then(s,0,110)else s.run (ss.map (·.1)) 0:=U
 generalize s.nO (ss.map (·.1))=res at*
 refine xS ?_
 refine fR [0,1,11] [] (ι:={i:ab // i<=ss.length/\∀j (hj:j<ss.length),j<i->1<=ss[j].1.op/\ss[j].1.op<=5}) (λi q_=>(12,bR ss.length)::(13,bR i.1)::q_) (λi q_=>q_) (λi=>ss.length - i.1) ⟨0,bp _,λj _ h=>by omega⟩ ?_
 rintro⟨i,hi,hE⟩ ih
 dsimp only at hi ⊢
 refine xB ?_ ?_<;>intro h
 ·have hi:i<ss.length:=bQ;have jv:=bE hi;have tD:(ss[i].1.op<1\/ss[i].1.op>5)->res=(s,0,110):=by
   grind
  have Dx:(¬(ss[i].1.op<1\/ss[i].1.op>5))->∀j (hj:j<ss.length),j<i+1->1<=ss[j].1.op/\ss[j].1.op<=5:=by
   grind
  refine xS ?_;refine dJ U U U U U hi U λbl o=>?_;generalize ss[i]=x at*;refine xS ?_;refine eT U U U U  ?_;refine xA ?_;intro b7;refine yT 20 (x.1.op<1) (¬x.1.op<1) ?_ ?_<;>intro h1
  ·rw[tD (.inl h1)];exact xR
  ·refine yB (x.1.op>5) (¬x.1.op>5) ?_ ?_<;>intro h2
   ·rw[tD (.inr h2)];exact xR
   ·refine xS ?_;exact X.W (ih ⟨i+1,by omega,Dx bw⟩ bQ)
 have gj:i=ss.length:=bQ
 subst gj
 rw[aj (by
  grind [List.mem_iff_getElem])]at PC
 have ae9:∀x∈ss,1<=x.1.op/\x.1.op<=5:=by grind [List.mem_iff_getElem]
 clear ih hE hi h
 refine xS ?_
 refine fR [0,1,26] [0] (ι:={z:ab×cd // z.1<=ss.length/\z.2.run ((ss.map (·.1)).drop z.1) z.1=res}) (λz q_=>(27,bR ss.length)::(28,bR z.1.1)::q_) (λz q_=>cJ D z.1.2::q_) (λz=>ss.length - z.1.1) ⟨(0,s),bp _,by simpa using PC.symm⟩ ?_
 clear PC
 rintro⟨⟨i,s1⟩,hi,hr⟩ ih
 dsimp only at hi hr ⊢
 refine xB ?_ ?_<;>intro h
 ·have hi:i<ss.length:=bQ;have jv:=bE hi;rw[oD _ _ _ hi,Kh]at hr;obtain⟨ho1,ho5⟩:=ae9 _ jv;have Vl:=hd _ jv;have ZG:∀x∈[ss[i]],x∈ss:=bQ;refine xS ?_;refine dJ U U U U U hi U λbl o=>?_;generalize ss[i]=x at*;obtain⟨fb,j,hj1,hj2,hj3,uD,ba0⟩:=ae8 G x.1.op ho1 ho5;have ir:=ba0 D s1 x U Vl;refine qW (data:=fY.data) ss [x] ZG (xS ?_);refine eT U U U U  ?_;refine xA ?_;intro b9;refine ph [0,1,3,4] [0] ?_;refine xL [0,1,3,4] ?_;refine xJ (aH3 G x.1.op j fb hj1 hj2 hj3) ?_;refine jd hG (fst:=[]) (cap:=[]) (us:=[bu D,.agg (eG x).toArray]) ir U U U U eC ?_;rintro v B ⟨rfl,rfl⟩;generalize s1.step x.1=y at*;obtain⟨s2,e2⟩:=y;dsimp only at hr ⊢;refine xD ?_;refine yB (e2≠0) (¬e2≠0) ?_ ?_<;>intro h2
  ·rw[ao h2]at hr;subst hr;exact xR
  ·rw[aj h2]at hr;refine xS ?_;exact X.W (ih ⟨(i+1,s2),by omega,hr⟩ bQ)
 have gj:i=ss.length:=bQ
 subst gj
 rw[cx dW]at hr
 have hr:(s1,ss.length,0)=res:=hr
 subst hr
 exact xR
def jW(x:Place×Rec):Seen:=⟨x.2.key,x.2.fQ,x.2.kind,x.1,aP,if dD (gv x.2)=0 then fV (gv x.2)else[]⟩
def Is(l:Y ca):fu:=(fu.add [] ((ni l).map jW)).1
theorem Jv:∀L:Y Eb,(pw L).length<=(L.map λx=>x.jE.data.length).sum
 |[]=>bz _
 |x::r=>by
  have ih:=Jv r;have h:=CC x.jE.data;exact ba1
theorem Ro(c:ae):∀l:Y ca,((nP c l).map λx=>x.jE.data.length).sum<=cq l
 |[]=>bz _
 |x::r=>by
  have ih:=Ro c r;have e:cq (x::r)=x.data.length+cq r:=NG;rw[e];unfold nP at*;rw[fZ];split
  ·omega
  ·rename_i y h;split at h
   ·cases h;rw[bN,fS];show x.data.length+_<=_;omega
   ·cases h
theorem sg:(ni l).length<=cq l:=by
 refine bo (Jv _) (bo (Nat.le_of_eq ?_) (Ro 1 l));exact((jV _ _).map _).sum_nat
theorem Ob{l:Y (Bs×cN)}(h:(l.map (·.1)).Nodup){x:Bs×cN}(hx:x∈l):kO l x.1=aN x.2:=by
 induction l<;>grind [kO]
theorem si{s:cd}(h:s.ok):cq s.all=iq s.files:=by
 unfold cd.all cd.told cq iq cd.names;rw[dK];have h1:=((jh (s.files.map (·.1))).map ((λf:ca=>f.data.length)∘vp s λf=>f.data.length)).sum_nat;exact ba3
theorem qg{s:cd}(h:s.ok){f:ca}(hf:f∈s.all):eO f.name=aP/\f.data.length<=4194304/\∃x∈s.files,x.1=f.name/\x.2.data=f.data:=by
 unfold cd.all cd.told cd.names at hf
 obtain⟨n,hn,rfl⟩:=cu.1 hf
 have hn:=(jh _).mem_iff.1 hn
 obtain⟨x,hx,rfl⟩:=cu.1 hn
 have h2:=Ob h.nd hx
 unfold vp
 rw[h2]
 refine⟨h.name x hx,?_,x,hx,U,by simp⟩
 have h3:x.2.data.length<=iq s.files:=by
  unfold iq;have h9:∀(l:Y ab) (y:ab),y∈l->y<=l.sum:=by
   intro l;induction l<;>grind
  exact h9 _ _ (cu.2 ⟨x,hx,U⟩)
 have h4:=h.yA
 have h5:=h.le
 have h6:=h.cap
 grind
theorem mH:s.all.length=s.files.length:=by
 unfold cd.all cd.told cd.names;rw[bF,(jh _).length_eq,bF]
theorem Oc:∀(r:Y Seen) (m:Seen),Gv m r=m\/Gv m r∈r
 |[],m=>.inl U
 |x::r,m=>by
  unfold Gv;rcases Oc r (if 0<K8 x m then x else m)with h|h
  ·rw[h];split
   ·exact .inr dW
   ·exact .inl U
  ·exact .inr (by simp[h])
theorem DG{l:Y Seen}(h:l≠[]):yb l∈l:=by
 cases l with
 |nil=>grind
 |cons x r=>
  rcases Oc r x with h|h
  ·show Gv x r∈_;rw[h];simp
  ·show Gv x r∈_;simp[h]
def fu.last(d:fu)(key:Bs):Seen×ae:=
 if nh (mi d key)=[]then(.zero,81)else if tG (mi d key)=aP then(.zero,82)else(yb (nh (mi d key)),0)
theorem T1(iP:eZ d<=1000000000):TR be G 139 #[bu K,bn key] [jc K d] (dC λv B=>v=.tuple #[.agg (d.last key).1.cs.toArray,.int .i64 (d.last key).2]/\B=[jc K d]):=by
 refine bZ U λb O hb hG=>?_;refine xA ?_;intro b4;refine Ag K λeI=>?_;refine cP (VU G K d key iP) ?_;rintro v B ⟨a,c,rfl,rfl⟩;dsimp only[bh,bk,bj];have VQ:=ud d key eI.nd;have N2:(nh (mi d key)).length<=(mi d key).length:=eF _ _;have e0:d.last key=if nh (mi d key)=[]then(.zero,81)else if tG (mi d key)=aP then(.zero,82)else(yb (nh (mi d key)),0):=U;generalize d.last key=res at*;generalize nh (mi d key)=r at*;generalize tG (mi d key)=fl at*;refine xB ?_ ?_<;>intro h1
 ·have h1:r=[]:=Ca;exact ba4
 ·have h1:¬r=[]:=bQ;have h1l:0<r.length:=gL.2 h1;rw[aj h1]at e0;refine xB ?_ ?_<;>intro h2
  ·rw[ao h2]at e0;exact af0
  ·rw[aj MZ]at e0;subst e0;refine xS ?_;refine dR a Seen.cs r U U (λ_=>rfl) λhc=>?_;refine xJ (Rf G a r.length c r U h1l bw) ?_;exact mz4
def fu.get(d:fu)(key:Bs):Seen×ae:=if(d.last key).2=0/\(d.last key).1.kind=2 then(.zero,81)else d.last key
theorem Lm(iP:eZ d<=1000000000):TR be G 76 #[bu K,bn key] [jc K d] (dC λv B=>v=.tuple #[.agg (d.get key).1.cs.toArray,.int .i64 (d.get key).2]/\B=[jc K d]):=by
 refine bZ U λb O hb hG=>?_;refine xA ?_;intro b4;refine xH (T1 G K d key iP) ?_;unfold fu.get;generalize d.last key=q at*;refine xA ?_;intro b6;refine yT 16 (q.2=0) (¬q.2=0) ?_ ?_<;>intro h1
 ·refine yB (q.1.kind=2) (¬q.1.kind=2) ?_ ?_<;>intro h2
  ·rw[ao ⟨h1,h2⟩];exact mz5
  ·rw[aj (λhh=>h2 hh.2)];exact mz5
 ·rw[aj (λhh=>h1 hh.1)];exact mz5
def fu.Jw(d:fu):Y Bs:=sortStr (d.map (·.1))
def fu.vq(d:fu)(ks:Y Bs):Y Seen:=ks.filterMap λk=>if(d.get k).2=0 then aN (d.get k).1 else aO
def fu.live(d:fu):Y Seen:=d.vq d.Jw
theorem Rq(ks:Y Bs)(i:ab)(h:i<ks.length):d.vq (ks.take (i+1))=if(d.get ks[i]).2=0 then d.vq (ks.take i)++[(d.get ks[i]).1]else d.vq (ks.take i):=by
 grind [fu.vq,cg]
theorem aH4(iP:eZ d<=1000000000):TR be G 202 #[bu K] [jc K d] (dC λv B=>∃a c,v=.slice a d.live.length c/\B=[own 155 8 a d.live.length c (d.live.flatMap Seen.cs),jc K d]):=by
 refine dH U λb O hb hG=>?_
 refine BZ K λM fs hp eI j7=>?_
 have hlen:=bo (A0 d eI.ne) iP
 have hfm:(kJ fs).map (·.1)=fs.map (·.1):=by simp_all
 have BR:(fs.map (·.1)).Perm (d.map (·.1)):=by grind [Gp]
 have nC:fs.length=d.length:=by have:=BR.length_eq;grind
 refine xS ?_
 refine cP (YZ G M) ?_
 rintro v B ⟨p,rfl,rfl⟩
 refine xD ?_
 refine hU [bx p 232 [.map (aN M)],mp bn M (kJ fs)] ?_
 refine cP (r6 G 396 [bu p] _ _ _ (Y0 G p M (kJ fs)) (λpre ⟨post,qb⟩=>?_) (λys qb=>?_)) ?_
 ·have:=qb.length_eq
  grind
 ·have:=qb.length_eq
  grind
 rintro v B ⟨ys,AD,a,c,rfl,rfl⟩
 have xy:sortStr ys=d.Jw:=pI (AD.trans (hfm▸BR))
 rw[xy]
 dsimp only[bh,bk,bj]
 have PF:d.Jw.length<=1000000000:=by grind [fu.Jw,kf]
 unfold fu.live
 generalize d.Jw=ks at*
 refine dR a (λk:Bs=>[bn k]) ks U U (λ_=>rfl) λhc=>?_
 refine mc [bx p 232 [.map (aN M)],mp bn M (kJ fs)] ?_
 dsimp only[bh,bk,bj]
 refine yX K M fs hp eI (xS ?_)
 refine X.dE (fh 155 8 _) ?_
 refine fR [0,13] [2,0] (ι:={q:ab×ah aX×ab // q.1<=ks.length}) (λq q_=>(3,.slice q.1.2.1 (d.vq (ks.take q.1.1)).length q.1.2.2)::(14,bR ks.length)::(15,bR q.1.1)::q_) (λq q_=>own 155 8 q.1.2.1 (d.vq (ks.take q.1.1)).length q.1.2.2 ((d.vq (ks.take q.1.1)).flatMap Seen.cs)::q_) (λq=>ks.length - q.1.1) ⟨(0,aO,0),bp _⟩ ?_
 rintro⟨⟨i,a2,c2⟩,hi⟩ ih
 dsimp only at hi ⊢
 have vF:(d.vq (ks.take i)).length<=ks.length:=bo (List.length_filterMap_le _ _) (by grind)
 refine xB ?_ ?_<;>intro h
 ·have hi:i<ks.length:=by grind
  have kl:=Rq d ks i hi
  generalize hr:d.vq (ks.take i)=r at*
  refine xS ?_
  refine dJ U U U U U hi U λbl o=>?_
  generalize ks[i]=k at*
  refine xH (Lm G K d k iP) ?_
  generalize d.get k=g at*
  refine xA ?_
  intro b6
  refine xB ?_ ?_<;>intro h2
  ·rw[ao (by grind)]at kl
   refine xZ ?_
   intro b7
   refine fH (g.1) U U U U (by omega) U (by rfl) (by rfl) (by rfl) (by rfl) (by rfl) (by omega) λa8 c8=>xS ?_
   refine X.less (ih ⟨(i+1,a8,c8),by omega⟩ (by grind)) ?_ ?_
   ·dsimp only
    rw[kl]
    exact(MN U U U U (dI U (by simp[bR])))
   ·dsimp only
    rw[kl]
    exact bA
  ·rw[aj (by grind)]at kl
   refine xS ?_
   refine X.less (ih ⟨(i+1,a2,c2),by omega⟩ (by grind)) ?_ ?_
   ·dsimp only
    rw[kl]
    exact(MN U U U U (dI U (by simp[bR])))
   ·dsimp only
    rw[kl]
    exact bA
 ·have gj:i=ks.length:=by grind
  subst gj
  rw[bV]
  refine xS ?_
  exact cT hb (.tmps U) ⟨a2,c2,U,U⟩
theorem GH:d.live.length<=d.length:=by
 grind [fu.live,fu.vq,fu.Jw,kf]
theorem aH5:TR be G 134 #[bu K] [] (dC λv B=>∃p,v=.func (.func 201) #[] #[bu p]/\B=[bx p 133 [bu K]]):=YS
theorem aH6(p K:ab)(d:fu)(iP:eZ d<=1000000000):
 IT be G 201 [bu p] [bx p 133 [bu K],jc K d] (λx:Seen=>[.agg x.cs.toArray]) d.live:=by
 refine IT.mk λl I J hY=>?_
 refine bZ U λb O hb hG=>xD ?_
 refine Ag K λeI=>?_
 have hlen:=bo (GH d) (bo (A0 d eI.ne) iP)
 refine cP (aH4 G K d iP) ?_
 rintro v B ⟨a,c,rfl,rfl⟩
 dsimp only[bh,bk,bj]
 generalize d.live=xs at*
 refine dR a Seen.cs xs U U (λ_=>rfl) λhc=>xS ?_
 refine fR [0,6] [3] (ι:={i:ab // i<=xs.length}) (λi q_=>(7,bR xs.length)::(8,bR i.1)::q_) (λi q_=>I (xs.take i.1)::q_) (λi=>xs.length - i.1) ⟨0,bp _⟩ ?_
 rintro⟨i,hi⟩ ih
 dsimp only
 refine xB ?_ ?_<;>intro h
 ·have hi:i<xs.length:=bQ;have XB:xs=xs.take i++xs[i]::xs.drop (i+1):=Ca;have hy:=hY (xs.take i) xs[i] (xs.drop (i+1)) XB;have xz:xs.take (i+1)=xs.take i++[xs[i]]:=bQ;refine xS ?_;refine dJ U U U U U hi U λbl o=>?_;generalize xs[i]=x at*;refine xS ?_;refine eT U U U U  ?_;refine xA ?_;intro b4;refine tM hG hy U U U U ?_ ?_
  ·dsimp only[bh,bk,bj];rw[<-xz];exact TY
  ·refine xD ?_;exact X.ret hb (.tmps U) ⟨_,.inr U,bA⟩
 ·have gj:i=xs.length:=bQ;subst gj;rw[bV];exact ba5
def fu.keys(d:fu):Y Bs:=d.live.map (·.key)
theorem af1(iP:eZ d<=1000000000):TR be G 72 #[bu K] [jc K d] (dC λv B=>∃a c,v=.slice a d.keys.length c/\B=[own 9 1 a d.keys.length c (d.keys.flatMap λk=>[bn k]),jc K d]):=by
 refine dH U λb O hb hG=>xS ?_;refine Ag K λeI=>?_;have hlen:=bo (GH d) (bo (A0 d eI.ne) iP);refine kq U U λb3=>?_;refine C7 (λk:Bs=>[bn k]) 9 1 b3 U (xS ?_);refine cP (aH5 G K) ?_;rintro v B ⟨q,rfl,rfl⟩;refine xD ?_;refine rL hG hb (aH6 G q K d iP) U (λpre=>[mS (λk:Bs=>[bn k]) 9 1 35 b3 (pre.map (·.key))]) [mS (λk:Bs=>[bn k]) 9 1 35 b3 []] U (λ_=>rfl) eK ?_ ?_
 ·intro b' β' l' r pre x post hx mM BS hr;have tJ:pre.length<=1000000000:=bQ;refine xA ?_;intro b4;refine qO mM hr (xS ?_);refine nK (λk:Bs=>[bn k]) 9 1 35 b3 λa6 c6=>?_;refine xZ ?_;intro b7;have hml:(pre.map (·.key)).length=pre.length:=bF _;refine fH (x.key) U U U U bw U cE cE cE cE cE bw λa8 c8=>xS ?_;have Rs:(pre++[x]).map (·.key)=pre.map (·.key)++[x.key]:=dW;refine vk (λk:Bs=>[bn k]) 9 1 35 b3 (pre.map (·.key)++[x.key]) U ?_;rw[<-Rs];exact lT mM
 ·intro D;dsimp only[bh,bk,bj];unfold fu.keys;refine nK (λk:Bs=>[bn k]) 9 1 35 b3 λa6 c6=>xS ?_;exact Tr
def fu.top(d:fu):ab:=(d.map λx=>(ng x.2).toNat).foldr max 0
theorem zD:∀(l:Y Seen) (m:az),(l.foldl A5 m).toNat=max m.toNat (ng l).toNat
 |[],m=>by simp[ng]
 |s::r,m=>by
  rw[eD,zD r (A5 m s),show ng (s::r)=r.foldl A5 (A5 0 s)from rfl,zD r (A5 0 s)];unfold A5;have h0:(0:az).toNat=0:=U;simp only[h0];split<;>split<;>omega
theorem yU{α O:Type}(f:α->O):∀(l:Y α) (i:ab),(l.eraseIdx i).map f=(l.map f).eraseIdx i
 |[],i=>by simp
 |x::r,0=>rfl
 |x::r,i+1=>by simp[yU f r i]
theorem vr:∀(l:Y ab) (i:ab) (h:i<l.length),l.foldr max 0=max l[i] ((l.eraseIdx i).foldr max 0)
 |x::r,0,_=>rfl
 |x::r,i+1,h=>by
  have:=vr r i Au;simp only[List.foldr_cons,fg,List.eraseIdx_cons_succ];omega
theorem GI{l m:Y ab}(h:l.Perm m):l.foldr max 0=m.foldr max 0:=h.foldr_eq' (λx _ y _ z=>by omega) 0
def wtK(fs:uc)(p:Bs×aR):ab:=(ng (oK fs p.1).2).toNat
theorem pL(j7:(fs.map (·.1)).Nodup){x:Bs×Cv}(h:x∈fs):oK fs x.1=x.2:=by
 obtain⟨pre,post,rfl⟩:=List.append_of_mem h
 grind [oK]
theorem aH7{d:fu}(hp:(Ip fs).Perm d)(j7:(fs.map (·.1)).Nodup):((kJ fs).map (wtK fs)).foldr max 0=d.top:=by
 unfold fu.top
 have h1:(kJ fs).map (wtK fs)=(Ip fs).map λx=>(ng x.2).toNat:=by
  unfold kJ Ip
  rw[dK,dK]
  apply cY
  intro x hx
  show(ng (oK fs x.1).2).toNat=(ng x.2.2).toNat
  grind [pL]
 grind [GI]
theorem af3(iP:eZ d<=1000000000):TR be G 85 #[bu K] [jc K d] (dC λv B=>v=.int .u64 d.top/\B=[jc K d]):=by
 refine dH U λb O hb hG=>?_;refine BZ K λM fs hp eI j7=>?_;have uB:=aH7 hp j7;refine xS ?_;refine tj U U U λr=>xS ?_;refine fR [0,12] [0] (ι:={q:Y (Bs×aR)×ah (Bs×aR)×az // q.1.Sublist (kJ fs)/\max q.2.2.toNat ((q.1.map (wtK fs)).foldr max 0)=d.top}) (λq q_=>(3,.int .u64 q.1.2.2.toNat)::q_) (λq q_=>If bn r M (kJ fs) q.1.1 q.1.2.1::q_) (λq=>q.1.1.length) ⟨(kJ fs,aO,0),List.Sublist.refl _,by rw[uB];simp⟩ ?_;rintro⟨⟨S,lJ,n⟩,hS,hn⟩ ih;dsimp only at hS hn ih ⊢;refine xS ?_;refine yG U U U (λhS0=>?_) (λi hi=>?_)
 ·subst hS0;have hn:n.toNat=d.top:=bQ;rw[hn];refine xS ?_;refine BW r ?_;refine yX K M fs hp eI  ?_;exact xR
 ·have jv:S[i]∈kJ fs:=hS.subset (bE hi);have qx:(S.eraseIdx i).length<S.length:=bQ;have hfe:=vr (S.map (wtK fs)) i K5;rw[gG,<-yU]at hfe;have Vf:(S.eraseIdx i).Sublist (kJ fs):=(List.eraseIdx_sublist S i).trans hS;generalize S.eraseIdx i=S2 at*;refine xS ?_;refine B0 U U U ?_;generalize S[i]=pd at*;obtain⟨x,hx,ZM⟩:=cu.1 jv;have XG:=pL j7 hx;subst ZM;rw[show wtK fs (x.1,yD x.2)=(ng x.2.2).toNat from by grind [wtK]]at hfe;obtain⟨key,⟨a,c⟩,l⟩:=x;dsimp only at hfe XG ⊢;have VQ:=ud d key eI.nd;have hg:mi d key=l:=bL1;rw[hg]at VQ;refine Em fs key j7 ?_;rw[XG];dsimp only[yD];refine xS ?_;refine fR [0,12,17] [] (ι:={i:ab // i<=l.length}) (λj q_=>(3,.int .u64 ((l.take j.1).foldl A5 n).toNat)::(18,bR l.length)::(19,bR j.1)::q_) (λj q_=>q_) (λj=>l.length - j.1) ⟨0,bp _⟩ ?_;rintro⟨j,hj⟩ rb;dsimp only;refine xB ?_ ?_<;>intro h
  ·have hj:j<l.length:=bQ;have kl:=uQ A5 n l j hj;refine xS ?_;refine gZ a bw λbl zX=>?_;subst zX;refine eA U U U U U hj (xS ?_);refine ja (cC:=Seen.cs) (l:=l) j U U U U (λ_=>rfl) dW hj  ?_;refine xA ?_;intro b7;rw[N1,<-kl];exact ba6
  ·have gj:j=l.length:=bQ;subst gj;rw[bV];have hfm:=zD l n;generalize l.foldl A5 n=n2 at*;refine xS ?_;refine Ae fs key j7 XG ?_;exact X.W (ih ⟨(S2,aN (key,.slice a l.length c),n2),Vf,by grind⟩ qx)
theorem uf{f:nN}(h:dD f=0):(fV f).length<=3001:=by
 grind [rX,j',fV]
theorem af5(hl:s.files.length<=100000000000)(eI:s.ok):
 TR be GG 123 #[bu D] [cJ D s] (dC λv B=>∃K,v=bu K/\B=[jc K (Is s.all),cJ D s]):=by
 refine dH U λb O hb hG=>?_
 have hvl:=sg s.all
 rw[si eI]at hvl
 have h1:=eI.yA
 have h2:=eI.le
 have h3:=eI.cap
 have sF:=mH s
 have jv:=λf hf=>@qg s eI f hf
 have hkd:Is s.all=(fu.add [] ((ni s.all).map jW)).1:=U
 refine xS ?_
 refine cP (La GG) ?_
 rintro v B ⟨K,rfl,rfl⟩
 refine xD ?_
 refine kq U U λb4=>?_
 refine C7 Seen.cs 155 8 b4 U (xS ?_)
 refine cP (kj GG D s bw) ?_
 rintro v B ⟨a,c,rfl,rfl⟩
 dsimp only[bh,bk,bj]
 refine pX a c (l:=s.all) λq hq hqc It=>?_
 generalize s.all=l at*
 subst hq
 rw[bF]at sF
 rw[bF]
 refine xS ?_
 refine cP (Le GG a q.length c) ?_
 rintro v B ⟨p,rfl,rfl⟩
 refine xD ?_
 generalize hV:ni (q.map (·.1))=V at*
 have hit:=Lf p a q.length c q U bw (λx hx=>by
  have h5:=jv _ (cu.2 ⟨x,hx,U⟩);have h6:=kC h5.1;exact⟨by omega,by omega⟩)
 rw[hV]at hit
 refine rL hG hb hit U (λpre=>[mS Seen.cs 155 8 235 b4 (pre.map jW)]) [mS Seen.cs 155 8 235 b4 []] U (λ_=>rfl) eK ?_ ?_
 ·intro b' β' l' r pre x post hx mM BS hr;have tJ:pre.length<=4194304:=bQ;have Rs:(pre++[x]).map jW=pre.map jW++[jW x]:=dW;have hml:(pre.map jW).length=pre.length:=bF _;have Iu:jW x=⟨x.2.key,x.2.fQ,x.2.kind,x.1,aP,if dD (gv x.2)=0 then fV (gv x.2)else[]⟩:=U;rw[Rs];generalize pre.map jW=sl at*;generalize jW x=sx at*;obtain⟨pl,rc⟩:=x;dsimp only[pr2,AB]at Iu ⊢;refine xA ?_;intro b5;refine xA ?_;intro b6;refine qO mM hr (xS ?_);refine En BS U U U (xS ?_);refine cM BS (qa GG (gv rc)) U U U bS.es ?_;rintro v B (⟨h0,a7,c7,rfl,rfl⟩|⟨h0,rfl,rfl⟩)
  ·rw[ao h0]at Iu;subst Iu;have zX:=uf h0;refine xD ?_;refine nK Seen.cs 155 8 235 b4 λa9 c9=>xS ?_;refine Ab U U U U  ?_;refine xZ ?_;intro tu;refine fH ((⟨rc.key,rc.fQ,rc.kind,pl,aP,fV (gv rc)⟩:Seen)) U U U U bw U cE cE cE cE cE bw λa8 c8=>xS ?_;refine vk Seen.cs 155 8 235 b4 (sl++[(⟨rc.key,rc.fQ,rc.kind,pl,aP,fV (gv rc)⟩:Seen)]) U ?_;exact lT mM
  ·rw[aj h0]at Iu;subst Iu;refine xD ?_;refine nK Seen.cs 155 8 235 b4 λa9 c9=>?_;refine ku au RB 1  ?_;refine xZ ?_;intro tu;refine fH ((⟨rc.key,rc.fQ,rc.kind,pl,aP,[]⟩:Seen)) U U U U bw U cE cE cE cE cE bw λa8 c8=>xS ?_;refine vk Seen.cs 155 8 235 b4 (sl++[(⟨rc.key,rc.fQ,rc.kind,pl,aP,[]⟩:Seen)]) U ?_;exact lT mM
 ·intro DD;dsimp only[bh,bk,bj];refine nK Seen.cs 155 8 235 b4 λa6 c6=>?_;refine dR a6 Seen.cs (V.map jW) U U (λ_=>rfl) λ_=>?_;refine xE (CA GG K [] a6 _ c6 (V.map jW) U (by rw[bF];show 0+_<=_;omega)) ?_;rw[hkd];exact ba7
theorem Bc(c:ae)(l:Y ca):(yC c l).length<=l.length:=by
 unfold yC;rw[kX];exact List.length_filterMap_le _ _
theorem Be{α:Type}{f:Mk->α->aB ae Mk}(k:ab)(hf:∀m x m' L,m.ok L->f m x=.ok m'->m'.ok (L+k)):∀(l:Y α) (m m':Mk) (L:ab),m.ok L->mj f l m=.ok m'->m'.ok (L+k*l.length)
 |[],m,m',L,h,e=>by cases e;exact h
 |x::r,m,m',L,h,e=>by
  unfold mj at e;split at e
  ·cases e
  ·rename_i m1 h1
   have:=Be k hf r m1 m' _ (hf _ _ _ _ h h1) e
   grind
theorem CG{l:Y ca}{cap:ae}{ts:Y av}{m:Mk}(e:gV l cap ts=.ok m):m.ok (12*l.length):=by
 unfold gV at e;split at e
 ·cases e
 ·rename_i hg;split at e
  ·cases e
  ·rename_i m1 h1;split at e
   ·cases e
   ·rename_i m2 h2;have sK:mY l=aP:=by
     grind
    have uT:∀f∈l,eO f.name=aP:=by
     grind [mY]
    have k0:Mk.ok ⟨l,cap,[],0,0,0,0,cq l⟩ l.length:=⟨bz _,bp _,by grind,by grind,uT⟩;have k1:=Be 1 (λm x m' L h e=>km h e) _ _ _ _ k0 h1;have k2:=Be 9 (λm x m' L h e=>by
     unfold s8 at e;split at e
     ·cases e;have:=h.mono (show L<=L+9 by omega);exact⟨this.now,this.steps,this.used,this.cap,this.names⟩
     ·split at e
      ·cases e
      ·rename_i m3 h3;cases e;have:=yI h h3;exact⟨this.now,this.steps,this.used,this.cap,this.names⟩) _ _ _ _ k1 h2
    have k3:=Be 1 (λm x m' L h e=>by
     unfold sf at e;split at e
     ·exact ad4
     ·split at e
      ·cases e
      ·rename_i m3 h3;cases e;have:=km h h3;exact⟨this.now,this.steps,this.used,this.cap,this.names⟩) _ _ _ _ k2 e
    have l4:=Bc 4 l;have l1:=Bc 1 l;have l2:=Bc 2 l;exact k3.mono bw
structure Sal where
 dir:fu
 top:az
 cG:ab
 dP:ab
def uU(s:cd):cd×aB ae Sal:=
 if s.down=aP then(s,.error 75)else
 match gV s.all s.cap []with
 |.error e=>(s,.error e)
 |.ok m=>if(s.nO m.steps).2.2≠0 then((s.nO m.steps).1,.error (s.nO m.steps).2.2)else((s.nO m.steps).1,.ok ⟨Is (s.nO m.steps).1.all,m.top,m.cG,m.dP⟩)
abbrev z89:Y aR:=[.slice aO 0 0,.int .u64 0,.int .i64 0,.int .i64 0]
def af7(D:ab)(r:cd×aB ae Sal)(v:aR)(B:Y bG):Prop:=match r.2 with
 |.error e=>v=.tuple #[.pointer aO,.agg z89.toArray,.int .i64 e]/\B=[cJ D r.1]
 |.ok z=>∃K fa fn fc,v=.tuple #[bu K,.agg #[.slice fa fn fc,.int .u64 z.top.toNat,.int .i64 z.cG,.int .i64 z.dP],.int .i64 0]/\B=[jc K z.dir,cJ D r.1]
theorem tN{s:fY}(h:m.do s=.error e):e=110\/e=111:=by
 grind [Mk.do]
theorem uA{nm d:Bs}(h:m.ahead nm d=.error e):e=110\/e=111:=by
 grind [Mk.ahead,tN]
theorem Mg{j:Bs}(h:m.yE j=.error e):e=110\/e=111:=by
 unfold Mk.yE at h
 grind [uA]
theorem Me{nm b:Bs}(h:m.hint nm b=.error e):e=110\/e=111:=by
 grind [Mk.hint,uA,tN]
theorem Kw{f:ca}(h:m.clean f=.error e):e=110\/e=111:=by
 grind [Mk.clean,Mk.pK,Mg,tN,uA,Me]
theorem CH{α:Type}{f:Mk->α->aB ae Mk}(hf:∀m x e,f m x=.error e->e=110\/e=111):∀(l:Y α) (m:Mk) (e:ae),mj f l m=.error e->e=110\/e=111
 |[],m,e,h=>by cases h
 |x::r,m,e,h=>by
  unfold mj at h;split at h
  ·rename_i h1;cases h;exact hf _ _ _ h1
  ·exact CH hf r _ e h
theorem wK{l:Y ca}{cap:ae}{ts:Y av}(h:gV l cap ts=.error e):e=110\/e=111:=by
 unfold gV at h
 split at h
 ·grind
 ·split at h
  ·rename_i h1;cases h;exact CH (λm x e h=>tN h) _ _ _ h1
  grind [CH,s8,Kw,sf,tN]
theorem uV{l:Y ca}{cap:ae}{ts:Y av}{e:ae}(h:gV l cap ts=.error e):e≠0:=by
 grind [wK]
theorem V2(hl:s.files.length<=50000000000)(qx:∀m,gV s.all s.cap []=.ok m->(s.nO m.steps).1.files.length<=100000000000):
 TR be GG 66 #[bu D] [cJ D s] (dC (af7 D (uU s))):=by
 refine dH U λb O hb hG=>?_
 generalize cD:uU s=res
 unfold uU at cD
 refine qV D λeI=>?_
 have h2:=eI.le
 have h3:=eI.cap
 have Nf:=eI.yA
 have hu:=si eI
 have sF:=mH s
 refine xA ?_
 intro b3
 refine xH (Gu GG D s) ?_
 refine xB ?_ ?_<;>intro hd
 ·exact ba8
 have hd:s.down=aQ:=hd
 rw[aj (by simp[hd])]at cD
 refine xS ?_
 refine cM hG (kj GG D s bw) U U U bS.es ?_
 rintro v B ⟨a,c,rfl,rfl⟩
 dsimp only[bh,bk,bj]
 refine pX a c (l:=s.all) λq hq hqc It=>?_
 refine xH (A4 GG D s) ?_
 rw[<-hq]at cD hu sF qx ⊢
 rw[bF]at sF ⊢
 refine xS ?_
 refine ku av RU 1 ?_
 refine cM hG (Li s.cap a _ c q U bw It bw aO 0 0 [] U eK) U U U eC ?_
 intro v B hD
 have Qv:=@yg (q.map (·.1)) s.cap []
 have hlo:=@CG (q.map (·.1)) s.cap []
 have T2:=@uV (q.map (·.1)) s.cap []
 cases hp:gV (q.map (·.1)) s.cap []with
 |error e=>
  rw[hp]at hD cD;obtain⟨rfl,rfl⟩:=hD;subst cD;have h0:=T2 hp;refine xD ?_;refine xA ?_;intro b5;refine bD 21 aP U V3 (xS ?_);exact bL2
 |ok m=>
  rw[hp]at hD cD;have Lh:=hlo hp;have Ik:=Qv hp;have nC:=qx m hp;obtain⟨ss,sa,sc,fa,fc,fx,ir,rfl,rfl⟩:=hD;dsimp only at cD;refine xD ?_;refine xA ?_;intro b5;refine dR sa eG ss U U (λ_=>rfl) λ_=>?_;have qN:ss.length<=1000000000000:=by
   have:=Lh.steps
   grind
  refine cM hG (Ll GG D s sa _ sc ss U qN (λx hx=>by
   have:=Ik.st x.1 bQ;omega)) U U U eC ?_
  rintro v B ⟨rfl,rfl⟩;rw[ir];generalize s.nO m.steps=y at*;obtain⟨s1,n1,e1⟩:=y;dsimp only at cD nC ⊢;refine xD ?_;refine xB ?_ ?_<;>intro he
  ·have he:e1≠0:=bQ;exact ba9
  have he:¬e1≠0:=bQ;rw[aj he]at cD;subst cD;refine qV D λhok1=>?_;have e2:ss.map (·.1)=m.steps:=ir;refine xS ?_;refine ph [0,2,3] [2] ?_;refine xL [0,2,3] ?_;refine xS ?_;refine cM hG (af5 D s1 nC hok1) U U U bS.es ?_;rintro v B ⟨K,rfl,rfl⟩;refine xD ?_;exact cT hb (.tmp U (.jf U cE (.tmp U .nil))) ⟨K,fa,m.iH,fc,U,U⟩
end
section
variable{fs:uc}(G:dA)(a:ah aX)(n c:ab)(xs:Y Place)(v:Place)(K:ab)(p:Place)(body:Bs)(s:Seen)(d:fu)
instance:ze be 3 (.int .i64 0):=⟨by kernel_rfl⟩
theorem aH8(q:Place)(w:aV):(Op.equal 153 (Place.v p) (Place.v q)).run be w=.ok (p==q) w:=by
 unfold Op.equal;have h:=Y6 9998 p.sE.toNat q.sE.toNat p.at_ q.at_ p.len q.len w;rw[yd]at h;exact h
theorem Od(x:Place):∀(es:Y MapEntry) (ks:Y Place) (i:ab) (w:aV),es.map (·.key)=ks.map Place.v->
 (Instr.findAsking 153 (Place.v x) es i).run be w=.ok ((ks.findIdx? (·=x)).bind λj=>(es[j]?).map λe=>(i+j,e.val)) w
 |[],[],i,w,_=>by simp[Instr.findAsking]
 |[],_::_,_,_,h=>by simp at h
 |_::_,[],_,_,h=>by simp at h
 |e::es,y::ks,i,w,h=>by
  simp only[bN,List.cons.injEq]at h;obtain⟨h1,h2⟩:=h;simp only[Instr.findAsking,h1,cb,aH8,bJ];by_cases hxy:x=y
  ·subst hxy;simp[List.findIdx?_cons]
  ·have hyx:¬y=x:=λh=>hxy h.symm;have hb:(x==y)=aQ:=bQ;simp only[hb,di,aI];rw[Od x es ks (i+1) w h2,List.findIdx?_cons];exact YJ
theorem CI:Keyed be 153 Place.v:=by
 refine⟨λe x w=>?_,λx es ks w h=>?_,λx w=>?_⟩
 ·rw[show(10000:ab)=9999+1 from rfl,iI];simp only[cb,cI Tryz.underlying153,bJ];have c1:∀(t:ab) (kk:IntKind) (v:ae) (_:be.underlying t=aN (.int kk)),(iI e 9999 t (.int kk v)).run be w=.ok () w:=bb0;have p0:=kR (w:=w) 139 0 x.cs.toArray dW;have p1:=kR (w:=w) 3 1 x.cs.toArray dW;have p2:=kR (w:=w) 3 2 x.cs.toArray dW;simp at p0 p1 p2;simp[p0,p1,p2,c1 139 .u32 _ Tryz.underlying139,c1 3 .i64 _ gE]
 ·simp only[Instr.findKey,cb,cI Tryz.underlying153,bJ];cases es with
  |nil=>
   exact bb1
  |cons e0 es0=>
   have hn:∀fs,Instr.findNow (.struct fs) (Place.v x) (e0::es0) 0=aO:=bb2;rw[hn];have:=Od x (e0::es0) ks 0 w h;simpa using this
 ·have:Instr.sameBits 10000 (Place.v x) (Place.v x)=aP:=by
   rw[show(10000:ab)=9998+1+1 from rfl];generalize 9998=n;simp[Instr.sameBits]
  simp[Instr.keyThatStays,this]
theorem aH9(hn:xs.length=n)(hs:n<=1099511627776):
 TR be G 462 #[.slice a n c,.agg v.cs.toArray] [dp (cy Place.cs) 3 a xs] (dX (bR (dM (λy=>v==y) 0 xs))):=by
 refine bZ U λb O hb hG=>?_
 refine xP ?_
 intro b3
 refine fR [0,3] [] (ι:={i:ab // i<=n/\dM (λy=>v==y) 0 xs=dM (λy=>v==y) i (xs.drop i)}) (λi q_=>(7,bR n)::(8,bR i.1)::q_) (λi q_=>q_) (λi=>n - i.1) ⟨0,bp _,U⟩ ?_
 rintro⟨i,hi,hE⟩ ih
 dsimp only
 refine xB ?_ ?_<;>intro h
 ·have hi:i<xs.length:=bQ;rw[ky _ xs i hi]at hE;refine xS ?_;refine fU 3 [0] ?_;refine xL [0,1,2] ?_;refine xS ?_;refine dJ U U U U U hi hn λbl o=>?_;generalize xs[i]=x at*;refine xS ?_;refine eT U U U U  ?_;refine xB ?_ ?_<;>intro h2
  ·have h2:v=x:=by grind [yd]
   rw[ao bQ]at hE;exact az5
  ·have h2:¬v=x:=bQ;exact aZ8
 ·exact U5
theorem af8(hn:xs.length=n)(hs:n<=1099511627776):
 TR be G 386 #[.slice a n c,.agg v.cs.toArray] [dp (cy Place.cs) 3 a xs] (dX (.bool (xs.contains v))):=by
 refine bZ U λb O hb hG=>?_
 refine xP ?_
 intro b3
 refine xJ (aH9 G a n c xs v hn hs) ?_
 exact cT hb (.tmps U) ⟨by simp only[mv,bR];rw[oT],U⟩
def plL(l:Y Seen):Y Place:=if tG l=aP then((nh l).filter λs=> !s.open_).map (·.place)else[]
def V4:Y Place->Y Place
 |[]=>[]
 |x::r=>if x∈r then V4 r else x::V4 r
theorem EG:∀(l:Y Place) (x:Place),x∈V4 l↔x∈l
 |[],_=>Iff.rfl
 |y::r,x=>by
  unfold V4;split
  ·rename_i h;rw[EG r x,cW];exact⟨.inr,λh2=>h2.elim (λe=>e▸h) id⟩
  ·rw[cW,cW,EG r x]
theorem CJ:∀(l:Y Place),(V4 l).Nodup
 |[]=>List.nodup_nil
 |y::r=>by
  unfold V4;split
  ·exact CJ r
  ·rename_i h;rw[gy,EG];exact⟨h,CJ r⟩
def fu.places(d:fu):Y Place:=d.flatMap λx=>plL x.2
def fu.kZ(d:fu):Y Place:=wI (V4 d.places)
def plK(fs:uc)(p:Bs×aR):Y Place:=plL (oK fs p.1).2
theorem fu.GJ:d.places.length<=eZ d:=by
 unfold fu.places eZ;induction d with
 |nil=>exact bz _
 |cons x t iht=>
  rw[ei,bK,bN,fS];have h1:(plL x.2).length<=x.2.length:=by
   unfold plL;split
   ·rw[bF];exact bo (eF _ _) (eF _ _)
   ·exact bp _
  omega
def XH(fl:ai)(r:Y Seen):Y Place:=if fl=aP then(r.filter λs=> !s.open_).map (·.place)else[]
theorem aI1{d:fu}(hp:(Ip fs).Perm d)(j7:(fs.map (·.1)).Nodup)(x:Place):(∃p∈kJ fs,x∈plK fs p)↔x∈d.places:=by
 unfold fu.places;rw[List.mem_flatMap];constructor
 ·rintro⟨p,l6,hx⟩;obtain⟨y,hy,rfl⟩:=cu.1 l6;refine⟨(y.1,y.2.2),hp.mem_iff.1 (cu.2 ⟨y,hy,U⟩),?_⟩;unfold plK at hx;dsimp only at hx;rw[pL j7 hy]at hx;exact hx
 ·rintro⟨y,hy,hx⟩;obtain⟨z,hz,rfl⟩:=cu.1 (hp.mem_iff.2 hy);refine⟨(z.1,yD z.2),cu.2 ⟨z,hz,U⟩,?_⟩;unfold plK;dsimp only;rw[pL j7 hz];exact hx
theorem mem_erase{α:Type}(S:Y α)(i:ab)(hi:i<S.length)(q:α->Prop):(∃p∈S,q p)↔q S[i]\/∃p∈S.eraseIdx i,q p:=by
 constructor
 ·rintro⟨p,hp,hq⟩;obtain⟨j,hj,rfl⟩:=List.getElem_of_mem hp;by_cases Av:j=i
  ·subst Av;exact .inl hq
  ·exact .inr ⟨S[j],List.mem_eraseIdx_iff_getElem.2 ⟨j,hj,Av,U⟩,hq⟩
 ·rintro(h|⟨p,hp,hq⟩)
  ·exact⟨_,bE hi,h⟩
  ·exact⟨p,List.mem_of_mem_eraseIdx hp,hq⟩
theorem af9(fl:ai)(r:Y Seen)(i:ab)(h:i<r.length)(x:Place):x∈XH fl (r.take (i+1))↔x∈XH fl (r.take i)\/(fl=aP/\r[i].open_=aQ/\x=r[i].place):=by
 unfold XH;cases fl
 ·simp
 ·simp only[if_true,true_and];rw[s6 _ r i h];split
  ·rename_i ho;have ho:r[i].open_=aQ:=by simpa using ho
   rw[dx,du];simp[ho]
  ·rename_i ho;have ho:¬r[i].open_=aQ:=by simpa using ho
   simp[ho]
def isI(v:aR):Prop:=∃c:ae,v=.int .i64 c
theorem CK(iP:eZ d<=1000000000):TR be G 283 #[bu K] [jc K d] (dC λv B=>∃a c,v=.slice a d.kZ.length c/\B=[own 153 3 a d.kZ.length c (d.kZ.flatMap Place.cs),jc K d]):=by
 refine dH U λb O hb hG=>?_;refine BZ K λM fs hp eI j7=>?_;have uB:=aI1 hp j7;refine xS ?_;refine sP Place.v U U λwb=>xS ?_;refine tj U U U λr=>xS ?_;refine fR [0,3,14] [0,0] (ι:={q:Y (Bs×aR)×ah (Bs×aR)×Y (Place×aR) // q.1.Sublist (kJ fs)/\(q.2.2.map λy:Place×aR=>y.1).Nodup/\(∀y∈q.2.2,isI y.2)/\∀x:Place,(x∈(q.2.2.map λy:Place×aR=>y.1)\/∃p∈q.1,x∈plK fs p)↔x∈d.places}) (λq q_=>q_) (λq q_=>If bn r M (kJ fs) q.1.1 q.1.2.1::mp Place.v wb q.1.2.2::q_) (λq=>q.1.1.length) ⟨(kJ fs,aO,[]),List.Sublist.refl _,List.nodup_nil,λy hy=>(by simp at hy),λx=>(by rw[<-uB x];simp)⟩ ?_;rintro⟨⟨S,lJ,W⟩,hS,hWn,hWi,hW⟩ ih;dsimp only at hS hWn hWi hW ih ⊢;refine xS ?_;refine yG U U U (λhS0=>?_) (λi hi=>?_)
 ·subst hS0;have hW:∀x,x∈W.map (·.1)↔x∈V4 d.places:=λx=>by rw[EG,<-hW x];simp
  have MO:(W.map (·.1)).Perm (V4 d.places):=(List.perm_ext_iff_of_nodup hWn (CJ _)).2 hW;refine xS ?_;refine BW r ?_;refine yX K M fs hp eI ?_;refine cP (Y3 G wb) ?_;rintro v B ⟨p,rfl,rfl⟩;refine xD ?_;have hplen:=d.GJ;have Tp:(V4 d.places).length<=d.places.length:=by
   have:∀l:Y Place,(V4 l).length<=l.length:=bb3;exact this _
  have hWl:=MO.length_eq;refine hU [bx p 502 [.map (aN wb)],mp Place.v wb W] ?_;refine cP (Rh G 453 [bu p] _ _ _ (Y4 G p wb W) (λpre ⟨post,qb⟩=>?_) (λys qb=>?_)) ?_
  ·have:=qb.length_eq;simp at this hWl;omega
  ·have:=qb.length_eq;simp at this hWl;omega
  rintro v B ⟨ys,AD,a,c,rfl,rfl⟩;have xy:wI ys=d.kZ:=ac7 (AD.trans MO);rw[xy];refine xD ?_;exact cT hb (.tmps U) ⟨a,c,U,U⟩
 ·have jv:S[i]∈kJ fs:=hS.subset (bE hi);have qx:(S.eraseIdx i).length<S.length:=bL3;have hfe:=λx=>mem_erase S i hi (λp=>x∈plK fs p);have Vf:(S.eraseIdx i).Sublist (kJ fs):=(List.eraseIdx_sublist S i).trans hS;generalize S.eraseIdx i=S2 at*;refine xS ?_;refine B0 U U U ?_;generalize S[i]=pd at*;obtain⟨x,hx,ZM⟩:=cu.1 jv;have XG:=pL j7 hx;subst ZM;have hfe:∀y,(∃p∈S,y∈plK fs p)↔y∈plL x.2.2\/∃p∈S2,y∈plK fs p:=λy=>by
   rw[hfe y,show plK fs (x.1,yD x.2)=plL x.2.2 from by unfold plK;dsimp only;rw[XG]]
  obtain⟨key,e⟩:=x;dsimp only at hfe XG ⊢;have hg:mi d key=e.2:=bL1;have VQ:=ud d key eI.nd;rw[hg]at VQ;refine xS ?_;refine bo1 r λit hit=>?_;have hT:=Ms (Jo G K M fs d hp eI j7 key iP) bK2 hit.KD;refine cP hT ?_;rintro v B ⟨B',⟨a,c,rfl,rfl⟩,rfl⟩;dsimp only[bh,bk,bj];refine bk7 r M hit ?_;rw[hg];have N2:(nh e.2).length<=e.2.length:=eF _ _;have tJ:plL e.2=XH (tG e.2) (nh e.2):=U;rw[tJ]at hfe;generalize tG e.2=fl at*;generalize nh e.2=rs at*;refine dR a Seen.cs rs U U (λ_=>rfl) λhc=>xS ?_;refine fR [0,3,14,6,25] [4] (ι:={q:ab×Y (Place×aR) // q.1<=rs.length/\(q.2.map λy:Place×aR=>y.1).Nodup/\(∀y∈q.2,isI y.2)/\∀x:Place,x∈(q.2.map λy:Place×aR=>y.1)↔x∈W.map (·.1)\/x∈XH fl (rs.take q.1)}) (λq q_=>(26,bR rs.length)::(27,bR q.1.1)::q_) (λq q_=>mp Place.v wb q.1.2::q_) (λq=>rs.length - q.1.1) ⟨(0,W),bp _,hWn,hWi,λx=>by simp[XH]⟩ ?_;rintro⟨⟨j,V⟩,hj,hVn,hVi,hV⟩ rb;dsimp only at hj hVn hVi hV rb ⊢;refine xB ?_ ?_<;>intro h
  ·have hj:j<rs.length:=sH;have xy:=af9 fl rs j hj;refine xS ?_;refine dJ U U U U U hj U λbl o=>?_;generalize rs[j]=s at*;refine xS ?_;refine eT U U U U (xS ?_);refine kq U U λb8=>?_;cases fl
   ·have xy:∀x,x∈XH aQ (rs.take (j+1))↔x∈XH aQ (rs.take j):=λx=>by rw[xy x];simp
    exact bb5
   ·refine yB (s.open_=aQ) (¬s.open_=aQ) ?_ ?_<;>intro ho
    ·obtain⟨cn,XC⟩:isI ((gM V s.place).getD (.int .i64 0)):=Vr hVi ⟨0,U⟩;have xy:∀x,x∈XH aP (rs.take (j+1))↔x∈XH aP (rs.take j)\/x=s.place:=λx=>by rw[xy x];simp[ho]
     refine xS ?_;refine fU 3 [0] ?_;refine xL [0,1,2] ?_;refine eN U U U U U ?_ ?_
     ·refine sQ (zv:=.int .i64 0) s.place CI U U U U (λw _=>ze.run (P:=be) (t:=3) ax w) ?_;rw[XC];refine xS ?_;refine eN U U U U U ?_ ?_
      ·refine IF U U U U U (xS ?_);refine EV s.place CI U U U U λjj st H2=>xS ?_;exact mz2
      ·refine EV s.place CI U U U U λjj st H2=>xS ?_;exact bL4
     ·refine EV s.place CI U U U U λjj st H2=>xS ?_;refine eN U U U U U ?_ ?_
      ·refine BU (zv:=.int .i64 0) s.place CI U U U U (λw=>ze.run (P:=be) (t:=3) ax w) ?_;rw[oC,ao U,dz];rw[XC]at H2 ⊢;refine xS ?_;exact bL4
      ·refine xS ?_;refine BU (zv:=.int .i64 0) s.place CI U U U U (λw=>ze.run (P:=be) (t:=3) ax w) ?_;rw[oC,ao U,dz];rw[XC]at H2 ⊢;exact bW5
    ·have xy:∀x,x∈XH aP (rs.take (j+1))↔x∈XH aP (rs.take j):=λx=>by rw[xy x];simp[ho]
     exact bb5
  ·have gj:j=rs.length:=sH;subst gj;rw[bV]at hV;refine xS ?_;exact X.W (ih ⟨(S2,aN (key,yD e),V),Vf,hVn,hVi,λx=>by dsimp only;rw[hV x,or_assoc,<-hfe x,hW x]⟩ qx)
def gk(p:Place)(body:Bs)(s:Seen):Seen×ai:=if s.open_=aP\/s.place≠p then(s,aP)else({s with open_:=aP,body:=body},Cu s body)
theorem Rt(b4 b5:ab)(p:Place)(body:Bs)(s:Seen)(hs:s.may=aP):
 TR be G 388 #[.agg s.cs.toArray,bu b4,bu b5] [dZ [bx b4 153 p.cs,bx b5 9 [bn body]]] (dC λv B=>v=.tuple #[.agg (gk p body s).1.cs.toArray,.bool (gk p body s).2]/\B=[dZ [bx b4 153 p.cs,bx b5 9 [bn body]]]):=by
 refine jy U λb O hb hG=>?_
 have hk:0<=s.kind/\s.key.length<=64:=by
  unfold Seen.may at hs;split at hs
  ·cases hs
  ·rename_i h;constructor
   ·refine Decidable.byContradiction λhh=>h (.inr (.inr (.inr ⟨by omega,by omega⟩)))
   ·refine Decidable.byContradiction λhh=>h (.inr (.inl bw))
 refine mc [bx b4 153 p.cs,bx b5 9 [bn body]] (xD ?_)
 refine xP ?_
 intro b3
 refine xA ?_
 intro b6
 have e0:gk p body s=if s.open_=aP\/s.place≠p then(s,aP)else({s with open_:=aP,body:=body},Cu s body):=U
 generalize gk p body s=res at*
 refine xT 9 ?_ ?_<;>intro h1
 ·rw[ao (.inl h1)]at e0;exact bb6
 ·have h1:s.open_=aQ:=h1;refine xB ?_ ?_<;>intro h2
  ·have h2:s.place≠p:=by
    have h3:=yd s.place p;intro hh;rw[hh]at h2 h3;have h4:(p==p)=aP:=dW;rw[h4]at h3;simp[h3]at h2
   rw[ao (.inr h2)]at e0;exact bb6
  ·have h2:s.place=p:=by
    have h3:=yd s.place p;have h4:(s.place==p)=aP:=by rw[<-h3];simpa using h2
    simpa using h4
   rw[aj (by simp[h1,h2])]at e0;subst e0;refine xJ (TU G s body hk.1 bw) ?_;refine fU 2 [3] ?_;refine xL [0,1] ?_;exact bL5
theorem Ln:(gk p body s).1.key=s.key:=by unfold gk;split<;>rfl
theorem Bf(hs:s.may=aP)(h:(gk p body s).2=aP):(gk p body s).1.may=aP:=by
 unfold gk at h ⊢;split
 ·exact hs
 ·rename_i h1;rw[aj h1]at h;unfold Seen.may at hs ⊢;split at hs
  ·cases hs
  ·rename_i h2;split at hs
   ·cases hs
   ·rename_i h3;rw[aj h2,aj h3,ao U];exact h
def GK(p:Place)(body:Bs)(l:Y Seen):Y Seen:=l.foldl (λacc s=>if(gk p body s).2=aP then nD acc (gk p body s).1 else acc) []
def uW(key:Bs)(acc:Y Seen)(D:fu):fu:=if acc=[]then D else(key,acc)::D
def wL(p:Place)(body:Bs)(P:fu):fu:=P.foldl (λD x=>uW x.1 (GK p body x.2) D) []
def fu.settled(d:fu)(p:Place)(body:Bs):fu:=d.filterMap λx=>if GK p body x.2=[]then aO else aN (x.1,GK p body x.2)
theorem Ru(P:fu)(x:Bs×Y Seen):wL p body (P++[x])=uW x.1 (GK p body x.2) (wL p body P):=by unfold wL;rw[List.foldl_append];rfl
theorem GL(p:Place)(body:Bs):∀(P:fu) (D:fu) (k:Bs),k∈(P.foldl (λD x=>uW x.1 (GK p body x.2) D) D).map (·.1)->k∈P.map (·.1)\/k∈D.map (·.1)
 |[],D,k,h=>.inr h
 |x::r,D,k,h=>by
  rcases GL p body r _ k h with h|h
  ·exact .inl (by simp only[bN,cW];exact .inr h)
  ·have h:k∈(uW x.1 (GK p body x.2) D).map (·.1):=h;unfold uW at h;split at h
   ·exact .inr h
   ·simp only[bN,cW]at h;rcases h with rfl|h
    ·exact .inl dW
    ·exact .inr h
theorem GN(p:Place)(body:Bs):∀(P:fu) (D:fu),(P.foldl (λD x=>uW x.1 (GK p body x.2) D) D).Perm (fu.settled P p body++D)
 |[],D=>ie _
 |x::r,D=>by
  refine(GN p body r _).trans ?_;unfold fu.settled uW;rw[fZ];by_cases h:GK p body x.2=[]
  ·rw[ao h];simp only[h,if_true];exact ie _
  ·rw[aj h];simp only[h,aI];exact gF
theorem V5{key:Bs}{acc:Y Seen}{D:fu}{s:Seen}(hk:key∉D.map (·.1))(hs:s.key=key):(uW key acc D).take s=uW key (nD acc s) D:=by
 have h1:mi (uW key acc D) key=acc:=by
  unfold uW;split
  ·rename_i h;unfold mi;rw[List.find?_eq_none.2 (by intro x hx;simp only[decide_eq_true_eq];exact λhh=>hk (hh▸List.mem_map_of_mem hx)),h];rfl
  ·unfold mi;simp
 have h2:kT (uW key acc D) key=D:=by
  unfold uW;split
  ·exact nb hk
  ·unfold kT;rw[List.filter_cons];simp only[beq_self_eq_true,Bool.not_true,di,aI];exact nb hk
 unfold fu.take Iq;rw[hs,h1,h2];unfold uW;rw[aj (Jj _ _)]
theorem ag0(l:Y Seen)(i:ab)(h:i<l.length):GK p body (l.take (i+1))=if(gk p body l[i]).2=aP then nD (GK p body (l.take i)) (gk p body l[i]).1 else GK p body (l.take i):=by
 unfold GK;rw[uQ _ _ l i h]
theorem EH(p:Place)(body:Bs):∀(l acc:Y Seen),(l.foldl (λacc s=>if(gk p body s).2=aP then nD acc (gk p body s).1 else acc) acc).length<=acc.length+l.length
 |[],acc=>bz _
 |s::r,acc=>by
  rw[eD,bL];refine bo (EH p body r _) ?_;split
  ·have:=Q9 acc (gk p body s).1;omega
  ·omega
theorem Oe(key:Bs)(acc:Y Seen)(D:fu):eZ (uW key acc D)=acc.length+eZ D:=by
 unfold uW;split
 ·rename_i h;simp[h]
 ·unfold eZ;simp
theorem Jx(p:Place)(body:Bs):∀(P D:fu),eZ (P.foldl (λD x=>uW x.1 (GK p body x.2) D) D)<=eZ P+eZ D
 |[],D=>by simp[eZ]
 |x::r,D=>by
  rw[eD];refine bo (Jx p body r _) ?_;rw[Oe];have h1:=EH p body x.2 [];have h2:eZ (x::r)=x.2.length+eZ r:=by unfold eZ;simp
  unfold GK;simp only[dU]at h1;omega
theorem GO{α:Type}:∀(l:Y α) (i:ab) (h:i<l.length),l.Perm (l[i]::l.eraseIdx i)
 |x::r,0,_=>ie _
 |x::r,i+1,h=>by
  have:=(GO r i Au).cons x;exact this.trans (fM _ _ _)
def klE(fs:uc)(p:Bs×aR):Bs×Y Seen:=(p.1,(oK fs p.1).2)
theorem aI2(j7:(fs.map (·.1)).Nodup):(kJ fs).map (klE fs)=Ip fs:=by
 unfold kJ Ip;rw[dK];apply cY;intro x hx;show(x.1,(oK fs x.1).2)=(x.1,x.2.2);rw[pL j7 hx]
theorem aI3(b4 b5:ab)(p:Place)(body:Bs)(d:fu)(iP:eZ d<=1000000000):
 TR be G 387 #[bu K,.func (.func 388) #[] #[bu b4,bu b5]] [jc K d,dZ [bx b4 153 p.cs,bx b5 9 [bn body]]] (dC λv B=>v=.tuple #[]/\B=[jc K (d.settled p body),dZ [bx b4 153 p.cs,bx b5 9 [bn body]]]):=by
 refine bZ U λb O hb hG=>?_
 refine BZ K λM fs hp eI j7=>xS ?_
 refine sP bn U U λN=>xS ?_
 refine Km (([]:uc).map kA) [] U ?_
 refine X.dE (bS.trans (bS.es (A:=[bx K 234 [.map (aN N)],mp bn N [],dZ (([]:uc).map kA)])) (aG0 (M:=N) (fs:=[]) (d:=[]) (ie _) ⟨List.nodup_nil,λx hx=>vE,λx hx=>vE⟩ _)) ?_
 simp only[List.append_eq,bk,bh]
 refine tj U U U λr=>xS ?_
 refine fR [0,1,20] [1,0] (ι:={q:Y (Bs×aR)×ah (Bs×aR)×fu // q.1.Sublist (kJ fs)/\(q.2.2++q.1.map (klE fs)).Perm d}) (λq q_=>q_) (λq q_=>jc K (wL p body q.1.2.2)::If bn r M (kJ fs) q.1.1 q.1.2.1::q_) (λq=>q.1.1.length) ⟨(kJ fs,aO,[]),List.Sublist.refl _,by rw[bk,aI2 j7];exact hp⟩ ?_
 rintro⟨⟨S,lJ,P⟩,hS,hP⟩ ih
 dsimp only at hS hP ih ⊢
 refine xS ?_
 refine yG U U U (λhS0=>?_) (λi hi=>?_)
 ·subst hS0;simp only[jo,bj]at hP;refine xS ?_;have hk:=GN p body P [];rw[bj]at hk;have hk2:(wL p body P).Perm (d.settled p body):=hk.trans (hP.filterMap _);refine BZ K λM2 fs2 vo vD hnd2=>?_;refine yX K M2 fs2 (d:=d.settled p body) (vo.trans hk2) ⟨((hk2.map _).nodup_iff).1 vD.nd,λx hx=>vD.may x (hk2.mem_iff.2 hx),λx hx=>vD.ne x (hk2.mem_iff.2 hx)⟩ ?_;exact xF
 ·have jv:S[i]∈kJ fs:=hS.subset (bE hi);have qx:(S.eraseIdx i).length<S.length:=bL3;have hep:=GO S i hi;have Vf:(S.eraseIdx i).Sublist (kJ fs):=(List.eraseIdx_sublist S i).trans hS;generalize S.eraseIdx i=S2 at*;refine xS ?_;refine B0 U U U ?_;generalize S[i]=pd at*;obtain⟨x,hx,ZM⟩:=cu.1 jv;have XG:=pL j7 hx;subst ZM;have hP2:((P++[(x.1,x.2.2)])++S2.map (klE fs)).Perm d:=by
   refine List.Perm.trans ?_ hP;have h1:=hep.map (klE fs);rw[bN,show klE fs (x.1,yD x.2)=(x.1,x.2.2)from by unfold klE;dsimp only;rw[XG]]at h1;rw[cB];exact(h1.symm).append_left P
  obtain⟨key,⟨a,c⟩,l⟩:=x;dsimp only at hP2 XG ⊢;have hPk:(key∉P.map (·.1))/\(∀s∈l,s.key=key/\s.may=aP)/\eZ P+l.length<=eZ d:=by
   refine⟨?_,?_,?_⟩
   ·have h1:=((hP2.map (·.1)).nodup_iff).2 eI.nd;rw[cB,dx,fN]at h1;intro hh;exact h1.2.2 key hh key dW U
   ·exact eI.may (key,l) (hP2.mem_iff.1 dW)
   ·have h1:=VN hP2;rw[<-h1];unfold eZ;simp only[dx,List.sum_append,bN,jo,fS,List.sum_nil];omega
  obtain⟨hPk,sK,hPs⟩:=hPk;have hkk:key∉(wL p body P).map (·.1):=by
   intro hh;rcases GL p body P [] key hh with h|h
   ·exact hPk h
   ·simp at h
  have hks:=Jx p body P [];have hks:eZ (wL p body P)<=eZ P:=by simpa[eZ,wL]using hks
  have xy:=Ru p body P (key,l);dsimp only at xy;refine Em fs key j7 ?_;rw[XG];dsimp only[yD];refine xS ?_;refine fR [0,1,20,25] [3] (ι:={j:ab // j<=l.length}) (λj q_=>(26,bR l.length)::(27,bR j.1)::q_) (λj q_=>jc K (uW key (GK p body (l.take j.1)) (wL p body P))::q_) (λj=>l.length - j.1) ⟨0,bp _⟩ ?_;rintro⟨j,hj⟩ rb;dsimp only;refine xB ?_ ?_<;>intro h
  ·have hj:j<l.length:=sH;have VQ:=ag0 p body l j hj;have hgl:=EH p body (l.take j) [];have Ik:=sK l[j] (bE hj);have B7:=Ln p body l[j];have hmy:=Bf p body l[j] Ik.2;have ir:=Rt G b4 b5 p body l[j] Ik.2;refine xS ?_;refine gZ a bw λbl zX=>?_;subst zX;refine eA U U U U U hj (xS ?_);refine ja (cC:=Seen.cs) (l:=l) j U U U U (λ_=>rfl) dW hj  ?_;refine xA ?_;intro b8;refine jd (fst:=[]) (us:=[iD l[j].cs.toArray]) (cap:=[bu b4,bu b5]) hG ir U U U U bS.es ?_;rintro v B ⟨rfl,rfl⟩;dsimp only[bh,bk,bj];generalize gk p body l[j]=q at*;refine xA ?_;intro b9;refine xB ?_ ?_<;>intro hq
   ·have hq:q.2=aP:=hq;rw[ao hq]at VQ;have xz:=V5 (acc:=GK p body (l.take j)) hkk (B7.trans Ik.1);rw[<-VQ]at xz;have hps:=Oe key (GK p body (l.take j)) (wL p body P);have hgl:(GK p body (l.take j)).length<=l.length:=bo hgl fD;refine xI (TW G K (uW key (GK p body (l.take j)) (wL p body P)) q.1 (hmy hq) bw) ?_;rw[xz];refine xD ?_;exact ad7
   ·have hq:¬q.2=aP:=by simp[hq]
    rw[aj hq]at VQ;refine xS ?_;refine X.less (rb ⟨j+1,by omega⟩ oQ) (s6_ U U U U U (dI U nM)) ?_;dsimp only;rw[VQ];exact bA
  ·have gj:j=l.length:=sH;subst gj;rw[bV,<-xy];refine xS ?_;refine Ae fs key j7 XG ?_;exact X.W (ih ⟨(S2,aN (key,.slice a l.length c),P++[(key,l)]),Vf,hP2⟩ qx)
def fu.settle(d:fu)(p:Place)(body:Bs):fu×ae:=if p∈d.kZ then(d.settled p body,0)else(d,81)
theorem zF:d.kZ.length<=eZ d:=by
 unfold fu.kZ;rw[Jp];have:∀l:Y Place,(V4 l).length<=l.length:=bb3;exact bo (this _) d.GJ
theorem GP(iP:eZ d<=1000000000):
 TR be G 290 #[bu K,.agg p.cs.toArray,bn body] [jc K d] (dC λv B=>v=.int .i64 (d.settle p body).2/\B=[jc K (d.settle p body).1]):=by
 refine jy U λb O hb hG=>?_
 refine xP ?_
 intro b4
 refine xP ?_
 intro b5
 have N2:=zF d
 refine ph [0,2] [1] ?_
 refine xL [0,2] ?_
 refine xS ?_
 refine cP (CK G K d iP) ?_
 rintro v B ⟨a,c,rfl,rfl⟩
 dsimp only[bh,bk,bj]
 unfold fu.settle
 refine dR a Place.cs d.kZ U U (λ_=>rfl) λhc=>?_
 refine xJ (af8 G a d.kZ.length c d.kZ p U bw) ?_
 refine yB (¬p∈d.kZ) (p∈d.kZ) ?_ ?_<;>intro h1
 ·rw[aj h1];exact xR
 ·rw[ao h1];refine xS ?_;refine hU [bx b4 153 p.cs,bx b5 9 [bn body]] ?_;refine xE (aI3 G K b4 b5 p body d iP) ?_;exact xR
def ug(r:Rec):ai:=(r.kind==1||r.kind==2)&&dD (gv r)==0
theorem ag1(r:Rec):TR be G 417 #[.agg r.cs.toArray] [] (dX (.bool (ug r))):=by
 refine dH U λb O hb hG=>?_;refine xP ?_;intro b1;have e0:ug r=((r.kind==1||r.kind==2)&&dD (gv r)==0):=U;generalize ug r=res at*;refine yT 8 (¬r.kind=1) (r.kind=1) ?_ ?_<;>intro h1
 ·refine yB (¬r.kind=2) (r.kind=2) ?_ ?_<;>intro h2
  ·refine xS ?_;exact cT hb (.tmps U) ⟨by rw[e0];simp[mv,h1,h2],U⟩
  ·refine xS ?_;refine cP (qa G (gv r)) ?_;intro v B hq;obtain⟨a,n,c,rfl,hn,hB⟩:=ux hq;refine xS ?_;exact cT hb (.tmps U) ⟨by rw[e0];simp[mv,h2],U⟩
 ·refine xS ?_;refine cP (qa G (gv r)) ?_;intro v B hq;obtain⟨a,n,c,rfl,hn,hB⟩:=ux hq;refine xS ?_;exact cT hb (.tmps U) ⟨by rw[e0];simp[mv,h1],U⟩
instance:ze be 151 (.agg Rec.zero.cs.toArray):=⟨by kernel_rfl⟩
abbrev CL:=Y (Bs×Rec)
abbrev Bg(M:CL):Y (Bs×aR):=M.map λx=>(x.1,.agg x.2.cs.toArray)
def GQ(M:CL)(k:Bs):ah Rec:=(M.find? (·.1=k)).map (·.2)
def Of(M:CL)(k:Bs)(r:Rec):CL:=
 match M.findIdx? (·.1=k)with
 |some i=>M.set i (k,r)
 |none=>M++[(k,r)]
theorem Jy(M:CL)(k:Bs):gM (Bg M) k=(GQ M k).map λr=>.agg r.cs.toArray:=by
 unfold gM GQ;induction M with
 |nil=>rfl
 |cons x r ih=>
  simp only[Bg,bN,List.find?_cons]at ih ⊢;by_cases h:x.1=k
  ·simp[h]
  ·simp only[h,decide_false];exact ih
theorem V6(M:CL)(k:Bs)(r:Rec):iT (Bg M) k (.agg r.cs.toArray)=Bg (Of M k r):=by
 unfold iT Of;have h:(Bg M).findIdx? (λx=>x.1=k)=M.findIdx? (λx=>x.1=k):=by
  rw[Bg,List.findIdx?_map];rfl
 rw[h];split
 ·rename_i i hi;rw[hi];simp only[Bg,fL]
 ·rename_i hi;rw[hi];simp[Bg]
def lH(M:CL)(r:Rec):CL:=
 if ug r=aP then
  match GQ M r.key with
  |none=>Of M r.key r
  |some o=>if 0<rF r o then Of M r.key r else M
 else M
def uX(l:Y Rec):CL:=l.foldl lH []
def oY(M:CL)(ks:Y Bs):Y Rec:=ks.map λk=>(GQ M k).getD .zero
def nW(l:Y Rec):Y Rec:=oY (uX l) (sortStr ((uX l).map (·.1)))
theorem Og(M:CL)(k:Bs)(r:Rec):(Of M k r).length<=M.length+1:=by
 unfold Of;split<;>simp
theorem Lo(M:CL)(r:Rec):(lH M r).length<=M.length+1:=by
 unfold lH;split
 ·split
  ·exact Og _ _ _
  ·split
   ·exact Og _ _ _
   ·exact iz _
 ·exact iz _
theorem wM:∀(l:Y Rec) (M:CL),(l.foldl lH M).length<=M.length+l.length
 |[],M=>bz _
 |x::r,M=>by
  have h1:=wM r (lH M x);have h2:=Lo M x;rw[eD,bL];omega
theorem aI4(xs:Y Rec)(hn:xs.length=n)(hs:n<=1000000000):
 TR be G 336 #[.slice a n c] [dp (cy Rec.cs) 4 a xs] (dC λv B=>∃a2 c2,v=.slice a2 (nW xs).length c2/\B=[own 151 4 a2 (nW xs).length c2 ((nW xs).flatMap Rec.cs)]):=by
 refine dH U λb O hb hG=>xS ?_
 refine sP bn U U λbm=>xS ?_
 refine fR [3,12] [0] (ι:={i:ab // i<=n}) (λi q_=>(13,bR n)::(14,bR i.1)::q_) (λi q_=>mp bn bm (Bg ((xs.take i.1).foldl lH []))::q_) (λi=>n - i.1) ⟨0,bp _⟩ ?_
 rintro⟨i,hi⟩ ih
 dsimp only
 refine xB ?_ ?_<;>intro h
 ·have hi:i<xs.length:=by simp at h;omega
  have kl:=uQ lH [] xs i hi
  refine xS ?_
  refine dJ U U U U U hi hn λbl o=>?_
  generalize xs[i]=x at*
  generalize(xs.take i).foldl lH []=M at*
  refine xS ?_
  refine eT U U U U  ?_
  refine xA ?_
  intro b5
  refine xJ (ag1 G x) ?_
  refine yB (¬ug x=aP) (ug x=aP) ?_ ?_<;>intro hv
  ·have e1:lH M x=M:=by unfold lH;rw[aj hv]
   rw[e1]at kl
   refine xS ?_
   refine X.less (ih ⟨i+1,by omega⟩ (by dsimp only;omega)) (Qm U U U (dI U (by simp[bR]))) ?_
   dsimp only;rw[kl];exact bA
  ·have e1:lH M x=match GQ M x.key with
    |none=>Of M x.key x
    |some o=>if 0<rF x o then Of M x.key x else M:=by unfold lH;rw[ao hv]
   refine xS ?_
   refine PR x.key U U U U ?_
   rw[Jy]
   cases hr:GQ M x.key with
   |none=>
    rw[hr]at e1
    dsimp only at e1
    rw[e1]at kl
    dsimp only[Option.map_none,Option.getD_none,Option.isSome_none]
    refine xA ?_
    intro b6
    refine rM x.key dy U U U U ?_
    rw[V6]
    refine xS ?_
    refine X.less (ih ⟨i+1,by omega⟩ (by dsimp only;omega)) (Qm U U U (dI U (by simp[bR]))) ?_
    dsimp only;rw[kl];exact bA
   |some o=>
    rw[hr]at e1
    dsimp only at e1
    dsimp only[cO,dz,Option.isSome_some]
    refine xA ?_
    intro b6
    refine yB (0<rF x o) (¬0<rF x o) ?_ ?_<;>intro hc
    ·rw[ao hc]at e1
     rw[e1]at kl
     refine xS ?_
     refine rM x.key dy U U U U ?_
     rw[V6]
     refine xS ?_
     refine X.less (ih ⟨i+1,by omega⟩ (by dsimp only;omega)) (Qm U U U (dI U (by simp[bR]))) ?_
     dsimp only;rw[kl];exact bA
    ·rw[aj hc]at e1
     rw[e1]at kl
     refine xS ?_
     refine X.less (ih ⟨i+1,by omega⟩ (by dsimp only;omega)) (Qm U U U (dI U (by simp[bR]))) ?_
     dsimp only;rw[kl];exact bA
 ·have gj:i=n:=by simp at h;omega
  subst gj
  rw[bI (by omega)]
  clear ih
  have hMl:(uX xs).length<=xs.length:=by have:=wM xs [];simpa[uX]using this
  unfold nW
  rw[show xs.foldl lH []=uX xs from rfl]
  generalize uX xs=M at*
  have hkm:(Bg M).map (·.1)=M.map (·.1):=by simp[Bg,Function.comp_def]
  refine xS ?_
  refine cP (Y1 G bm) ?_
  rintro v B ⟨p,rfl,rfl⟩
  refine xD ?_
  refine hU [bx p 532 [.map (aN bm)],mp bn bm (Bg M)] ?_
  refine cP (r6 G 475 [bu p] _ _ _ (Y2 G p bm (Bg M)) (λpre ⟨post,qb⟩=>?_) (λys qb=>?_)) ?_
  ·have:=qb.length_eq
   rw[hkm]at this
   simp at this;omega
  ·have:=qb.length_eq
   rw[hkm]at this
   simp at this;omega
  rintro v B ⟨ys,AD,a2,c2,rfl,rfl⟩
  have xy:sortStr ys=sortStr (M.map (·.1)):=pI (hkm▸AD)
  rw[xy]
  dsimp only[bh,bk,bj]
  have PF:(sortStr (M.map (·.1))).length<=1000000000:=by rw[kf,bF];omega
  generalize sortStr (M.map (·.1))=ks at*
  refine dR a2 (λk:Bs=>[bn k]) ks U U (λ_=>rfl) λhc=>?_
  refine mc [bx p 532 [.map (aN bm)],mp bn bm (Bg M)] (xD ?_)
  refine X.dE (fh 151 4 _) ?_
  refine fR [3,43] [1,3,0] (ι:={q:ab×ah aX×ab // q.1<=ks.length}) (λq q_=>(8,.slice q.1.2.1 (oY M (ks.take q.1.1)).length q.1.2.2)::(44,bR ks.length)::(45,bR q.1.1)::q_) (λq q_=>own 151 4 q.1.2.1 (oY M (ks.take q.1.1)).length q.1.2.2 ((oY M (ks.take q.1.1)).flatMap Rec.cs)::q_) (λq=>ks.length - q.1.1) ⟨(0,aO,0),bp _⟩ ?_
  rintro⟨⟨i,a3,c3⟩,hi⟩ ih
  dsimp only at hi ⊢
  have vF:(oY M (ks.take i)).length<=ks.length:=by unfold oY;rw[bF,dG];omega
  refine xB ?_ ?_<;>intro h
  ·have hi:i<ks.length:=by simp at h;omega
   have kl:oY M (ks.take (i+1))=oY M (ks.take i)++[(GQ M ks[i]).getD .zero]:=by
    unfold oY
    rw[cg,dx,bX hi];rfl
   generalize hr:oY M (ks.take i)=r at*
   refine xS ?_
   refine dJ U U U U U hi U λbl o=>?_
   generalize ks[i]=k at*
   refine xS ?_
   refine tP k U U U U ?_
   rw[Jy,show((GQ M k).map λr=>iD r.cs.toArray).getD (.agg Rec.zero.cs.toArray)=.agg ((GQ M k).getD .zero).cs.toArray from by cases GQ M k<;>rfl]
   generalize(GQ M k).getD .zero=y at*
   refine xZ ?_
   intro b7
   refine fH (y) U U U U (by first|rfl|assumption) rfl (by rfl) (by rfl) (by rfl) (by rfl) (by rfl) (by omega) λa8 c8=>xS ?_
   refine X.less (ih ⟨(i+1,a8,c8),by dsimp only;omega⟩ (by dsimp only;omega)) ?_ ?_
   ·dsimp only
    rw[kl]
    exact(MN U U U U (dI U (by simp[bR])))
   ·dsimp only
    rw[kl]
    exact bA
  ·have gj:i=ks.length:=by simp at h;omega
   subst gj
   rw[bV]
   refine xS ?_
   exact cT hb (.tmps U) ⟨a3,c3,U,U⟩
end
section
variable{F:Y bG}(G:dA)(a:ah aX)(n c:ab)
structure Src where
 no:av
 data:Bs
 wN:ai
 gw:Y Ptr
abbrev SI:=Src×ab×(ah aX×ab)×(ah aX×ab)
abbrev SI.cs(x:SI):Y aR:=[.int .u32 x.1.no.toNat,.slice x.2.2.1.1 x.1.data.length x.2.2.1.2,.bool x.1.wN,.slice x.2.2.2.1 x.1.gw.length x.2.2.2.2]
def uh(x:SI):bG:=bx x.2.1 283 x.cs
abbrev GR(x:SI):Y aR:=[bu x.2.1]
def Bh(q:Y SI):bG:=
 ro λr=>∀x∈q,(x.1.data.length<=x.2.2.1.2/\(x.2.2.1.1=aO->x.1.data.length=0/\x.2.2.1.2=0)/\xm RB 1 x.2.2.1.1 x.1.data r)/\xm (cy Ptr.cs) 5 x.2.2.2.1 x.1.gw r
instance EM.Bh(H A r F:Y bG)(q:Y SI)[h1:FP H (Bh q) r][h2:EM H A F]:EM H (Bh q::A) F:=⟨EM.jM h1.out h2.out⟩
section
variable {b:bc}{O:de}{k:Kt}{E:Env}{H:Y bG}{R:aZ->Y bG->Prop}{cc:ah (ar aW×Y aW)}
theorem T3(q:Y SI)(i:ab)(h:i<q.length):(q.map uh).Perm (uh q[i]::(q.eraseIdx i).map uh):=by
 rw[<-bN];refine List.Perm.map uh ?_;rw[List.eraseIdx_eq_take_drop_succ];have h2:q=q.take i++q[i]::q.drop (i+1):=by rw[<-bP h,dV]
 exact(List.Perm.of_eq h2).trans gF
theorem E1(q:Y SI)(i:ab)(h:i<q.length)[hf:FP H (dZ (q.map uh)) F](hx:X be b O cc k E (bx q[i].2.1 283 q[i].cs::dZ ((q.eraseIdx i).map uh)::F) R):X be b O cc k E H R:=
 X.dE (hf.out.trans ((iR _ F).trans ((je (ew (T3 q i h)) F).trans (bS.cons _ (iE _ F))))) hx
theorem Am(q:Y SI)(i:ab)(h:i<q.length)(y:SI)[hE:ES H [bx y.2.1 283 y.cs,dZ ((q.eraseIdx i).map uh)] F](hx:X be b O cc k E (dZ ((q.set i y).map uh)::F) R):X be b O cc k E H R:=by
 refine X.dE (hE.out.trans ?_) hx
 refine(bS.cons _ (iR _ F)).trans ?_
 show bS ((bx y.2.1 283 y.cs::(q.eraseIdx i).map uh)++F) _
 refine bS.trans (je (ew (b:=(q.set i y).map uh) ?_) F) (iE _ F)
 have h2:=T3 (q.set i y) i Au
 rw[List.getElem_set_self,List.eraseIdx_set_eq]at h2
 exact h2.symm
theorem Yb(q:Y SI)(i:ab)(h:i<q.length)[hE:ES H [bx q[i].2.1 283 q[i].cs,dZ ((q.eraseIdx i).map uh)] F](hx:X be b O cc k E (dZ (q.map uh)::F) R):X be b O cc k E H R:=
 Am q i h q[i] (by rw[List.set_getElem_self];exact hx)
theorem aR7(q:Y SI)(x:SI)(hx:x∈q)[hf:FP H (Bh q) F](h:x.1.data.length<=x.2.2.1.2->(x.2.2.1.1=aO->x.1.data.length=0/\x.2.2.1.2=0)->X be b O cc k E (dp RB 1 x.2.2.1.1 x.1.data::dp (cy Ptr.cs) 5 x.2.2.2.1 x.1.gw::H) R):X be b O cc k E H R:=by
 refine j9 λw hs=>?_
 have h1:=Sat.ro (hs.dE hf.out) x hx
 have h2:bS H (dp RB 1 x.2.2.1.1 x.1.data::dp (cy Ptr.cs) 5 x.2.2.2.1 x.1.gw::H):=bc0
 exact⟨_,hs.dE h2,h h1.1.1 h1.1.2.1⟩
theorem aS4(q q':Y SI)(hq:∀y∈q',∃x∈q,y.1.data=x.1.data/\y.1.gw=x.1.gw/\y.2.2=x.2.2)[hf:FP H (Bh q) F](h:X be b O cc k E (Bh q'::H) R):X be b O cc k E H R:=by
 refine X.dE (js hf.out λr hr y hy=>?_) h
 obtain⟨x,hx,h1,h2,h3⟩:=hq y hy
 rw[h1,h2,h3]
 exact hr x hx
end
def vt(p:Place)(s:Src):ai:=s.no==p.sE&&s.wN
theorem ag2(x:SI)(p:Place)(b1:ab):TR be G 384 #[bu x.2.1,bu b1] [bx x.2.1 283 x.cs,bx b1 153 p.cs] (dC λv B=>v=.bool (vt p x.1)/\B=[bx x.2.1 283 x.cs,bx b1 153 p.cs]):=by
 refine bZ U λb O hb hG=>?_
 obtain⟨⟨no,data,wN,gw⟩,bb,⟨da,dc⟩,⟨pa,pc⟩⟩:=x
 dsimp only[SI.cs]
 refine xS ?_
 by_cases h:no=p.sE
 ·refine fU 13 [0,1] ?_
  apply dB [0,1,2,3,4,5,6,7,8,9,10,11,12] U U U
  ·intro pp qb
   refine xS ?_
   refine bD 11 aP U (by simp[h]) (xS ?_)
   exact qb
  ·rfl
  ·rfl
  refine xS ?_
  exact cT hb (.tmps U) ⟨by simp[mv,vt,h],U⟩
 ·refine fU 13 [0,1] ?_
  apply dB [0,1,2,3,4,5,6,7,8,9,10,11,12] U U U
  ·intro pp qb
   refine xS ?_
   refine bD 11 aQ U (by
    have:¬(no.toNat:ae)=p.sE.toNat:=λh2=>h (fk.1 (by omega))
    simp[this]) ?_
   refine xS ?_
   exact qb
  ·rfl
  ·rfl
  refine xS ?_
  exact cT hb (.tmps U) ⟨by simp[mv,vt,h],U⟩
theorem V7(b1:ab)(p:Place)(a:ah aX)(n c:ab)(q:Y SI)(hn:q.length=n)(hs:n<=1099511627776):
 TR be G 383 #[.slice a n c,.func (.func 384) #[] #[bu b1]] [dp (cy GR) 1 a q,dZ (q.map uh),bx b1 153 p.cs] (dC λv B=>v=bR (dM (vt p) 0 (q.map (·.1)))/\B=[dZ (q.map uh),bx b1 153 p.cs]):=by
 refine bZ U λb O hb hG=>?_
 rw[<-Cq (λx:SI=>x.1) (vt p) 0 q]
 refine xS ?_
 refine fR [0,1] [] (ι:={i:ab // i<=n/\dM (λx:SI=>vt p x.1) 0 q=dM (λx:SI=>vt p x.1) i (q.drop i)}) (λi q_=>(7,bR n)::(8,bR i.1)::q_) (λi q_=>q_) (λi=>n - i.1) ⟨0,bp _,U⟩ ?_
 rintro⟨i,hi,hE⟩ ih
 dsimp only
 refine xB ?_ ?_<;>intro h
 ·have hi:i<q.length:=sH;refine xS ?_;refine dJ U U U U U hi hn λbl o=>?_;rw[ky _ q i hi]at hE;refine xS ?_;refine E1 q i hi ?_;refine jd (fst:=[]) (us:=[bu q[i].2.1]) (cap:=[bu b1]) hG (ag2 G q[i] p b1) U U U U bS.es ?_;rintro v B ⟨rfl,rfl⟩;dsimp only[bh,bk,bj];refine Yb q i hi  ?_;refine xB ?_ ?_<;>intro h2
  ·rw[ao Cc]at hE;exact bJ2
  ·rw[aj Cc]at hE;refine xS ?_;exact X.W (ih ⟨i+1,by omega,hE⟩ oQ)
 ·have gj:i=n:=sH;exact bW6
def qh(no:av)(p:Ptr):Seen:=⟨p.key,p.fQ,p.kind,⟨no,p.at_,p.len⟩,aQ,[]⟩
def iZ(s:Src):Y Seen:=if s.wN=aP then s.gw.map (qh s.no)else(ni [⟨(gU 1 s.no).1,s.data⟩]).map jW
theorem ag3(x:SI)(Qt:x.1.data.length<=x.2.2.1.2)(Tw:x.2.2.1.1=aO->x.1.data.length=0/\x.2.2.1.2=0)(Tp:x.1.data.length<=1000000000)(tJ:x.1.gw.length<=1000000000):
 TR be GG 287 #[bu x.2.1] [bx x.2.1 283 x.cs,dp RB 1 x.2.2.1.1 x.1.data,dp (cy Ptr.cs) 5 x.2.2.2.1 x.1.gw]
  (dC λv B=>∃a c,v=.slice a (iZ x.1).length c/\B=[own 155 8 a (iZ x.1).length c ((iZ x.1).flatMap Seen.cs),bx x.2.1 283 x.cs]):=by
 refine dH U λb O hb hG=>?_
 obtain⟨⟨no,data,wN,gw⟩,bb,⟨da,dc⟩,⟨pa,pc⟩⟩:=x
 dsimp only[SI.cs]at*
 unfold iZ
 refine xS ?_
 refine kq U U λb3=>?_
 refine C7 Seen.cs 155 8 b3 U (xS ?_)
 cases wN with
 |true=>
  rw[ao U];refine xS ?_;refine fR [0,3,19] [2,0] (ι:={i:ab // i<=gw.length}) (λi q_=>(20,bR gw.length)::(21,bR i.1)::q_) (λi q_=>mS Seen.cs 155 8 235 b3 ((gw.take i.1).map (qh no))::q_) (λi=>gw.length - i.1) ⟨0,bp _⟩ ?_;rintro⟨i,hi⟩ ih;dsimp only at hi ⊢;refine xB ?_ ?_<;>intro h
  ·have hi:i<gw.length:=bQ;have xz:(gw.take (i+1)).map (qh no)=(gw.take i).map (qh no)++[qh no gw[i]]:=QY;have vF:((gw.take i).map (qh no)).length<=1000000000:=bQ;refine xS ?_;refine dJ U U U U U hi U λbl o=>?_;generalize gw[i]=p at*;generalize(gw.take i).map (qh no)=sl at*;refine xS ?_;refine eT U U U U  ?_;refine xA ?_;intro b5;refine nK Seen.cs 155 8 235 b3 λa9 c9=>?_;refine fU 15 [0,2,4] ?_;refine xL [0,1,2,3,4,5,6,7,8,9,10,11,12,13,14] ?_;refine xZ ?_;intro tu;refine fH (qh no p) U U U U bw U cE cE cE cE cE bw λa8 c8=>xS ?_;refine vk Seen.cs 155 8 235 b3 (sl++[qh no p]) U ?_;rw[<-xz];exact bc2
  ·have gj:i=gw.length:=bQ;subst gj;rw[bV];refine xS ?_;refine nK Seen.cs 155 8 235 b3 λa9 c9=>xS ?_;exact cT hb (.tmps U) ⟨a9,c9,U,U⟩
 |false=>
  rw[aj Bool.false_ne_true];refine xJ (AY 1 no) ?_;have hml:=se 1 no;generalize(gU 1 no).1=nm at*;refine xZ ?_;intro b60;refine EW b60 2 1 U U ?_;refine dR (aN ⟨b60,0,aO⟩) bY [((⟨nm,data⟩,da,dc):WB ca)] U U (λ_=>rfl) λ_=>?_;refine Mr ca.data ⟨nm,data⟩ da dc Qt Tw ?_;refine cP (Le GG (aN ⟨b60,0,aO⟩) 1 1) ?_;rintro v B ⟨p,rfl,rfl⟩;refine xD ?_;have hvl:=sg [(⟨nm,data⟩:ca)];have ZO:cq [(⟨nm,data⟩:ca)]=data.length:=NG;rw[ZO]at hvl;have hit:=Lf p (aN ⟨b60,0,aO⟩) 1 1 [((⟨nm,data⟩,da,dc):WB ca)] U bw (λx hx=>by
   rw[cK.1 hx];dsimp only;exact⟨by omega,by omega⟩)
  have hmq:([((⟨nm,data⟩,da,dc):WB ca)]).map (·.1)=[⟨nm,data⟩]:=U;rw[hmq]at hit;generalize ni [(⟨nm,data⟩:ca)]=V at*;refine rL hG hb hit U (λpre=>[mS Seen.cs 155 8 235 b3 (pre.map jW)]) [mS Seen.cs 155 8 235 b3 []] U (λ_=>rfl) eK ?_ ?_
  ·intro b' β' l' r pre x post hx mM BS hr;have tJ:pre.length<=1000000000:=bQ;have Rs:(pre++[x]).map jW=pre.map jW++[jW x]:=dW;have hml:(pre.map jW).length=pre.length:=bF _;have Iu:jW x=⟨x.2.key,x.2.fQ,x.2.kind,x.1,aP,if dD (gv x.2)=0 then fV (gv x.2)else[]⟩:=U;rw[Rs];generalize pre.map jW=sl at*;generalize jW x=sx at*;obtain⟨pl,rc⟩:=x;dsimp only[pr2,AB]at Iu ⊢;refine xA ?_;intro b5;refine xA ?_;intro b6;refine qO mM hr (xS ?_);refine En BS U U U (xS ?_);refine cM BS (qa GG (gv rc)) U U U bS.es ?_;rintro v B (⟨h0,a7,c7,rfl,rfl⟩|⟨h0,rfl,rfl⟩)
   ·rw[ao h0]at Iu;subst Iu;have zX:=uf h0;refine xD ?_;refine nK Seen.cs 155 8 235 b3 λa9 c9=>xS ?_;refine Ab U U U U  ?_;refine xZ ?_;intro tu;refine fH ((⟨rc.key,rc.fQ,rc.kind,pl,aP,fV (gv rc)⟩:Seen)) U U U U bw U cE cE cE cE cE bw λa8 c8=>xS ?_;refine vk Seen.cs 155 8 235 b3 (sl++[(⟨rc.key,rc.fQ,rc.kind,pl,aP,fV (gv rc)⟩:Seen)]) U ?_;exact lT mM
   ·rw[aj h0]at Iu;subst Iu;refine xD ?_;refine nK Seen.cs 155 8 235 b3 λa9 c9=>?_;refine ku au RB 1  ?_;refine xZ ?_;intro tu;refine fH ((⟨rc.key,rc.fQ,rc.kind,pl,aP,[]⟩:Seen)) U U U U bw U cE cE cE cE cE bw λa8 c8=>xS ?_;refine vk Seen.cs 155 8 235 b3 (sl++[(⟨rc.key,rc.fQ,rc.kind,pl,aP,[]⟩:Seen)]) U ?_;exact lT mM
  ·intro DD;dsimp only[bh,bk,bj];refine nK Seen.cs 155 8 235 b3 λa6 c6=>xS ?_;exact Tr
abbrev GS:aR:=.agg #[]
def vu(l:Y Seen):Y (Bs×aR):=l.foldl (λM s=>iT M s.key GS) []
theorem Rv(l:Y Seen)(s:Seen):vu (l++[s])=iT (vu l) s.key GS:=by grind [vu]
def Bi(d:fu)(s:Src):fu:=(d.add (iZ s)).1
def jb(l:Y Src):fu:=l.foldl Bi []
def sj(l:Y Src):Y (Bs×aR):=vu (l.flatMap iZ)
def kU(l:Y Src):ab:=(l.map λs=>(iZ s).length).sum
theorem rP{d:fu}(h:d.ok)(l:Y Seen):(d.add l).1.ok/\eZ (d.add l).1<=eZ d+l.length:=by
 grind [fu.add,tF]
theorem Lp(l:Y Src)(i:ab)(h:i<l.length):kU (l.take (i+1))=kU (l.take i)+(iZ l[i]).length:=by
 grind [kU,cg]
theorem Rw(l:Y Src)(i:ab):kU (l.take i)<=kU l:=by
 grind [kU,dV]
theorem Oh(q:Y SI)(hn:q.length=n)(hs:n<=1000000000000)(hd:∀x∈q,x.1.data.length<=1000000000/\x.1.gw.length<=1000000000)(iP:kU (q.map (·.1))<=1000000000):
 TR be GG 179 #[.slice a n c] [dp (cy GR) 1 a q,dZ (q.map uh),Bh q] (dC λv B=>∃K KM,v=.tuple #[bu K,.map (aN KM)]/\B=[jc K (jb (q.map (·.1))),mp bn KM (sj (q.map (·.1))),dZ (q.map uh)]):=by
 subst hn
 refine dH U λb O hb hG=>xS ?_
 refine cP (La GG) ?_
 rintro v B ⟨K,rfl,rfl⟩
 refine xD ?_
 refine sP bn U U λKM=>xS ?_
 refine fR [4,5,13] [1,0] (ι:={i:ab // i<=q.length/\eZ (jb ((q.map (·.1)).take i))<=kU ((q.map (·.1)).take i)}) (λi q_=>(14,bR q.length)::(15,bR i.1)::q_) (λi q_=>jc K (jb ((q.map (·.1)).take i.1))::mp bn KM (sj ((q.map (·.1)).take i.1))::q_) (λi=>q.length - i.1) ⟨0,bp _,bp _⟩ ?_
 rintro⟨i,hi,hds⟩ ih
 dsimp only at hi hds ⊢
 refine xB ?_ ?_<;>intro h
 ·have hi:i<q.length:=bQ;have jv:=bE hi;obtain⟨Qt,Tw⟩:=hd _ jv;have xz:(q.map (·.1)).take (i+1)=(q.map (·.1)).take i++[q[i].1]:=QY;have hts:=Lp (q.map (·.1)) i K5;have hle:=Rw (q.map (·.1)) (i+1);rw[gG]at hts;have hD:jb ((q.map (·.1)).take (i+1))=((jb ((q.map (·.1)).take i)).add (iZ q[i].1)).1:=by rw[xz];unfold jb;rw[List.foldl_append];rfl
  have hK:(q.map (·.1)).take i++[q[i].1]=(q.map (·.1)).take (i+1):=xz.symm;have hKM:∀j,sj ((q.map (·.1)).take i)=vu (((q.map (·.1)).take i).flatMap iZ++(iZ q[i].1).take j)\/True:=λ_=>.inr trivial;have hK2:sj ((q.map (·.1)).take (i+1))=vu (((q.map (·.1)).take i).flatMap iZ++iZ q[i].1):=by grind [sj]
  have hK1:sj ((q.map (·.1)).take i)=vu (((q.map (·.1)).take i).flatMap iZ):=U;rw[hK1];generalize((q.map (·.1)).take i).flatMap iZ=pre at*;refine aR7 q q[i] jv λjT mX=>xS ?_;refine dJ U U U U U hi U λbl o=>xS ?_;refine E1 q i hi ?_;refine cP (ag3 q[i] jT mX Qt Tw) ?_;rintro v B ⟨a8,c8,rfl,rfl⟩;dsimp only[bh,bk,bj];refine Yb q i hi ?_;refine Ag K λRx=>?_;have hao:=rP Rx (iZ q[i].1);have hds':eZ (jb ((q.map (·.1)).take (i+1)))<=kU ((q.map (·.1)).take (i+1)):=by rw[hD,hts];have:=hao.2;omega
  have Tp:eZ (jb ((q.map (·.1)).take i))+(iZ q[i].1).length<=1000000000:=bw;generalize iZ q[i].1=T at*;refine dR a8 Seen.cs T U U (λ_=>rfl) λ_=>?_;refine xU (CA GG K _ a8 _ c8 T U Tp) ?_;rw[<-hD];refine xD ?_;refine X.loop (ι:={j:ab // j<=T.length}) (λj=>([(4,bu K),(5,.map (aN KM)),(13,.slice a q.length c),(14,bR q.length),(15,bR i),(24,.slice a8 T.length c8),(25,bR T.length),(26,bR j.1)],[jc K (jb ((q.map (·.1)).take (i+1))),mp bn KM (vu (pre++T.take j.1)),dZ (q.map uh),dp (cy GR) 1 a q,Bh q,dp (cy Seen.cs) 8 a8 T])) (λj=>T.length - j.1) ⟨0,bp _⟩ (Sub.of U) (by dsimp only;rw[jr,bj];exact bA) ?_;rintro⟨j,hj⟩ rb;dsimp only at hj ⊢;refine xB ?_ ?_<;>intro h2
  ·have hj:j<T.length:=bQ;have htj:vu (pre++T.take (j+1))=iT (vu (pre++T.take j)) T[j].key GS:=by
    grind [cg,Rv]
   refine xS ?_;refine dJ U U U U U hj U λY' o2=>?_;generalize T[j]=y at*;refine xS ?_;refine eT U U U U  ?_;refine xA ?_;intro tu;refine rM y.key dy U U U U ?_;rw[<-htj];exact ba6
  ·have PG:j=T.length:=bQ;subst PG;rw[bV,<-hK2];refine xS ?_;exact X.W (ih ⟨i+1,by omega,hds'⟩ bQ)
 ·have gj:i=q.length:=bQ;subst gj;rw[bI dW];refine xS ?_;exact cT hb (.tmps U) ⟨K,KM,U,U⟩
theorem S0{P:aT}{b:bc}{O:de}{k:Kt}{E:Env}{H:Y bG}{R:aZ->Y bG->Prop}{cc:ah (ar aW×Y aW)}{α:Type}{Re:Rp α}{sz:ab}{xs:Y α}(i:ab)(hi:i<xs.length)[hf:BQ H a Re sz xs](h:∀g o,a=aN ⟨g,o,aO⟩->X P b O cc k E (el Re sz g (o+i*sz) xs[i]::H) R):X P b O cc k E H R:=by
 obtain⟨F,hF⟩:=hf.out
 refine j9 λw hs=>?_
 have h1:=Sat.ro (hs.dE hF)
 rcases h1 with h2|⟨g,o,ha,_⟩
 ·grind
 ·refine⟨_,hs.dE (js (q:=λr=>∃l:Y aR,l.length=sz/\D4 r g (o+i*sz) l/\Re.h r l xs[i]) hF λr hr=>?_),h g o ha⟩
  rcases hr with h2|⟨g',o',ha',h3⟩
  ·grind
  simp_all
section
variable {σ:Type}(step:σ->Src->Place->ai->σ)
def zG(s:Src)(p:Place)(z:σ)(l:Y Ptr):σ:=l.foldl (λz x=>if x.at_=p.at_/\x.len=p.len then step z s p (pF s.data x)else z) z
def Oi(l:Y Src)(i:ab):Src:=l.getD i ⟨0,[],aQ,[]⟩
def Ry(l:Y Src)(z:σ)(p:Place):σ:=if 0<=dM (vt p) 0 l then zG step (Oi l (dM (vt p) 0 l).toNat) p z (Oi l (dM (vt p) 0 l).toNat).gw else z
def qB(l:Y Src)(ps:Y Place)(z:σ):σ:=ps.foldl (Ry step l) z
theorem aI5(q:Y SI)(i:ab)(h:i<q.length):Oi (q.map (·.1)) i=q[i].1:=by
 grind [Oi]
theorem V8(s:Src)(p:Place)(z:σ)(l:Y Ptr)(j:ab)(h:j<l.length):zG step s p z (l.take (j+1))=(if l[j].at_=p.at_/\l[j].len=p.len then step (zG step s p z (l.take j)) s p (pF s.data l[j])else zG step s p z (l.take j)):=by
 grind [zG,cg]
theorem Rz(l:Y Src)(ps:Y Place)(z:σ)(i:ab)(h:i<ps.length):qB step l (ps.take (i+1)) z=Ry step l (qB step l (ps.take i) z) ps[i]:=by
 grind [qB,cg]
theorem T4(G:dA)(fe:ab)[CF be fe](cap:Y aR)(S:σ->bG)(I:σ->Prop)(a:ah aX)(n c:ab)(q:Y SI)(hn:q.length=n)(hs:n<=1000000000000)(hd:∀x∈q,x.1.data.length<=1000000000/\x.1.gw.length<=1000000000)
 (pa:ah aX)(pn pc:ab)(ps:Y Place)(hpn:ps.length=pn)(hps:pn<=1000000000000)(z0:σ)(hI:I z0)(ba0:∀z s p r,I z->I (step z s p r))
 (he:∀(x:SI) (p:Place) (r:ai) (z:σ),x∈q->I z->TR be G fe (([]:Y aR)++[bu x.2.1,p.v,.bool r]++cap).toArray [bx x.2.1 283 x.cs,dp RB 1 x.2.2.1.1 x.1.data,S z] (dC λv B=>v=.tuple #[]/\B=[bx x.2.1 283 x.cs,S (step z x.1 p r)])):
 TR be G 288 #[.slice a n c,.slice pa pn pc,.func (.func fe) #[] cap.toArray] [dp (cy GR) 1 a q,dZ (q.map uh),Bh q,dp (cy Place.cs) 3 pa ps,S z0]
  (dC λv B=>v=.tuple #[]/\B=[dZ (q.map uh),S (qB step (q.map (·.1)) ps z0)]):=by
 subst hn hpn
 refine jy U λb O hb hG=>xS ?_
 refine fR [0,2,11] [4] (ι:={i:ab // i<=ps.length/\I (qB step (q.map (·.1)) (ps.take i) z0)}) (λi q_=>(12,bR ps.length)::(13,bR i.1)::q_) (λi q_=>S (qB step (q.map (·.1)) (ps.take i.1) z0)::q_) (λi=>ps.length - i.1) ⟨0,bp _,hI⟩ ?_
 rintro⟨i,hi,hIz⟩ ih
 dsimp only at hi hIz ⊢
 refine xB ?_ ?_<;>intro h
 ·have hi:i<ps.length:=bQ;have ir:=Rz step (q.map (·.1)) ps z0 i hi;refine xS ?_;refine dJ U U U U U hi U λbl o=>?_;generalize ps[i]=p at*;obtain⟨z,hz⟩:∃z,z=qB step (q.map (·.1)) (ps.take i) z0:=⟨_,U⟩;have hIz1:I z:=hz▸hIz;rw[<-hz]at ir ⊢;refine xS ?_;refine eT U U U U  ?_;refine xA ?_;intro b7;refine xQ (V7 G b7 p a _ c q U bw) ?_;unfold Ry at ir;have vz:=Cs (vt p) 0 (q.map (·.1));generalize hJ:dM (vt p) 0 (q.map (·.1))=J at*;rw[bF]at vz;refine yB (¬0<=J) (0<=J) ?_ ?_<;>intro h2
  ·rw[aj h2]at ir;refine xS ?_;refine X.less (ih ⟨i+1,by omega,by grind⟩ bQ) (MN U U U U (dI U nM)) (by dsimp only;rw[ir];exact bA)
  ·rw[ao h2]at ir;obtain⟨j,rfl⟩:∃j:ab,J=j:=⟨J.toNat,by omega⟩;have hj:j<q.length:=bw;rw[gS,aI5 q j hj]at ir;have jv:=bE hj;obtain⟨Qt,Tw⟩:=hd _ jv;refine aR7 q q[j] jv λjT mX=>?_;refine E1 q j hj ?_;refine S0 (Re:=cy GR) (xs:=q) a j hj λg og hga=>?_;have hex:=λr z=>he q[j] p r z jv;obtain⟨x,hxq⟩:∃x,x=q[j]:=⟨_,U⟩;have yF:q.set j x=q:=bt1;simp only[<-hxq]at Qt Tw jT mX ir hex ⊢;clear hxq jv;obtain⟨s,xb,⟨xa,xc⟩,⟨ya,yc⟩⟩:=x;dsimp only[SI.cs]at*;subst hga;refine xS ?_;refine eA U U U U U hj (xS ?_);refine fR [0,2,7,8,11,12,13,28] [6,6] (ι:={t:ab // t<=s.gw.length/\I (zG step s p z (s.gw.take t))}) (λt q_=>(29,bR s.gw.length)::(30,bR t.1)::q_) (λt q_=>S (zG step s p z (s.gw.take t.1))::q_) (λt=>s.gw.length - t.1) ⟨0,bp _,hIz1⟩ ?_;rintro⟨t,ht,hIt⟩ rb;dsimp only at ht hIt ⊢;refine xB ?_ ?_<;>intro h3
   ·have ht:t<s.gw.length:=bQ;have L0:=V8 step s p z s.gw t ht;refine xS ?_;refine dJ U U U U U ht U λY' o2=>?_;generalize s.gw[t]=y at*;obtain⟨z1,HX⟩:∃z1,z1=zG step s p z (s.gw.take t):=⟨_,U⟩;have hIt1:I z1:=HX▸hIt;rw[<-HX]at L0 ⊢;refine xS ?_;refine eT U U U U (xS ?_);refine kq U U λtu=>?_;have key:∀z2,I z2->zG step s p z (s.gw.take (t+1))=z2->I (zG step s p z (s.gw.take (t+1))):=bQ;refine yT 39 (y.at_=p.at_) (¬y.at_=p.at_) ?_ ?_<;>intro h4
    ·refine yB (y.len=p.len) (¬y.len=p.len) ?_ ?_<;>intro h5
     ·rw[ao ⟨h4,h5⟩]at L0;refine xS ?_;refine fG (sG [0,1,2,3,4,5,6,7,8,9,10,11,12,13]) [bx tu 214 y.cs,bx b7 153 p.cs,bx xb 283 [.int .u32 s.no.toNat,.slice xa s.data.length xc,.bool s.wN,.slice ya s.gw.length yc],el (cy GR) 1 g (og+j*1) (s,xb,(xa,xc),(ya,yc))] U ?_;apply dB [0,1,2,3,4,5,6,7,8,9,10,11,12,13] U U U
      ·intro pp qb;refine xS ?_;refine eA U U U U U hj (xS ?_);refine eA U U U U U hj (xS ?_);exact qb
      ·rfl
      ·rfl
      refine xJ (Qy G xa _ xc s.data y U jT bw) ?_;refine jd hG (hex (pF s.data y) z1 hIt1) U U U U eC ?_;rintro v B ⟨rfl,rfl⟩;rw[<-L0];refine xD ?_;exact X.W (rb ⟨t+1,by omega,by grind⟩ bQ)
     exact bc4
    exact bc4
   ·have htn:t=s.gw.length:=bQ;subst htn;rw[bV]at hIt ⊢;have MH:qB step (q.map (·.1)) (ps.take (i+1)) z0=zG step s p z s.gw:=ir;rw[<-MH]at hIt ⊢;refine xS ?_;refine Am q j hj (s,xb,(xa,xc),(ya,yc)) ?_;rw[yF];exact X.W (ih ⟨i+1,by omega,hIt⟩ bQ)
 ·have gj:i=ps.length:=bQ;subst gj;rw[bV];exact xF
end
def ui(k:ab×ab)(g:Y av):bG:=ex λz:Y (av×aR)=>[pu (z.map (·.1)=g/\∀y∈z,∃b,y.2=bu b),bx k.1 501 [.map (aN k.2)],mp VE k.2 z]
def pM(g:Y av)(s:Src)(_:Place)(r:ai):Y av:=if r=aP then g else g.erase s.no
theorem RA(z:Y (av×aR))(n:av):(vB z n).map (·.1)=(z.map (·.1)).erase n:=by
 unfold vB;induction z with
 |nil=>rfl
 |cons y r ih=>
  rw[List.findIdx?_cons,bN,List.erase_cons];by_cases h:y.1=n
  ·simp[h]
  ·simp only[h,decide_false,aj (show ¬(y.1==n)=aP by simpa using h)];cases hr:r.findIdx? (λx=>decide (x.1=n))with
   |none=>rw[hr]at ih;simp at ih ⊢;exact ih
   |some i=>rw[hr]at ih;simp at ih ⊢;exact ih
theorem V9{p:aR->Prop}{z:Y (av×aR)}(n:av)(h:∀y∈z,p y.2):∀y∈vB z n,p y.2:=by
 unfold vB;split
 ·exact λy hy=>h y (List.mem_of_mem_eraseIdx hy)
 ·exact h
theorem V'(k:ab×ab)(x:SI)(p:Place)(r:ai)(g:Y av):
 TR be G 378 (([]:Y aR)++[bu x.2.1,p.v,.bool r]++[bu k.1]).toArray [bx x.2.1 283 x.cs,dp RB 1 x.2.2.1.1 x.1.data,ui k g] (dC λv B=>v=.tuple #[]/\B=[bx x.2.1 283 x.cs,ui k (pM g x.1 p r)]):=by
 obtain⟨⟨no,data,wN,gw⟩,bb,⟨da,dc⟩,⟨pa,pc⟩⟩:=x
 obtain⟨k5,GM⟩:=k
 refine TR.go (us:=[_,_,_,_]) (bH U) λb O hb hG=>?_
 dsimp only[SI.cs]
 unfold pM
 refine xP ?_
 intro b5
 cases r with
 |true=>
  rw[ao U];exact xF
 |false=>
  rw[aj Bool.false_ne_true];refine X.l8 ui (k5,GM) U λz=>?_;dsimp only[bh,bk,bj];refine mF λhz=>xS ?_;refine fU 5 [0,3] ?_;refine xL [0,1,2,3,4] ?_;refine xS ?_;refine EY no Cr U U U (xS ?_);refine X.dE (fE (p:=(vB z no).map (·.1)=g.erase no/\∀y∈vB z no,∃b,y.2=bu b) ⟨by rw[RA,hz.1],V9 (p:=λv=>∃b,v=bu b) no hz.2⟩ _) ?_;exact X.fin hb (.tmps U) ⟨_,⟨U,U⟩,(bS.shut ui (k5,GM) (g.erase no) U (vB z no)).trans bA⟩
def qC(l:Y Src):Y av:=l.foldl (λg s=>if s.no∈g then g else g++[s.no]) []
def pN(l:Y Src)(ps:Y Place):Y av:=qB pM l ps (qC l)
def oZ(l:Y Src)(ps:Y Place):Y Src:=l.map λs=>{s with wN:=s.wN&&decide (s.no∈pN l ps)}
def nj(l:Y Src)(ps:Y Place):ai:=decide ((pN l ps).length<l.length)
theorem RC(l:Y Src)(i:ab)(h:i<l.length):qC (l.take (i+1))=if l[i].no∈qC (l.take i)then qC (l.take i)else qC (l.take i)++[l[i].no]:=by
 unfold qC;rw[cg,bX h,List.foldl_append];rfl
abbrev lh(f:Src->ai)(x:SI):SI:=(⟨x.1.no,x.1.data,x.1.wN&&f x.1,x.1.gw⟩,x.2)
def CM(f:Src->ai)(q:Y SI)(i:ab):Y SI:=(q.take i).map (lh f)++q.drop i
theorem Oj(f:Src->ai)(q:Y SI)(i:ab):(CM f q i).length=q.length:=by
 unfold CM;rw[bK,bF,<-bK,dV]
theorem ag4(f:Src->ai)(q:Y SI)(i:ab)(h:i<q.length):(CM f q i).set i (lh f q[i])=CM f q (i+1):=by
 unfold CM;have h1:((q.take i).map (lh f)).length=i:=Wa;exact bc5
theorem ag5(f:Src->ai)(q:Y SI)(i:ab)(h:i<q.length):(CM f q i)[i]'(by rw[Oj];exact h)=q[i]:=by
 have h1:((q.take i).map (lh f)).length=i:=Wa;have h2:(CM f q i)[i]?=aN q[i]:=by
  unfold CM;exact bc6
 exact(List.getElem?_eq_some_iff.1 h2).2
instance:ze be 280 (.pointer aO):=⟨by kernel_rfl⟩
def od(l:Y Src)(ps:Y Place)(s:Src):ai:=decide (s.no∈pN l ps)
theorem wO(q:Y SI)(ps:Y Place):(q.map (lh (od (q.map (·.1)) ps))).map (·.1)=oZ (q.map (·.1)) ps:=by
 unfold oZ od;simp_all
theorem Ol(q:Y SI)(hn:q.length=n)(hs:n<=1000000000000)(hd:∀x∈q,x.1.data.length<=1000000000/\x.1.gw.length<=1000000000)(pa:ah aX)(pn pc:ab)(ps:Y Place)(hpn:ps.length=pn)(hps:pn<=1000000000000):
 TR be G 282 #[.slice a n c,.slice pa pn pc] [dp (cy GR) 1 a q,dZ (q.map uh),Bh q,dp (cy Place.cs) 3 pa ps]
  (dC λv B=>v=.bool (nj (q.map (·.1)) ps)/\B=[dZ ((q.map (lh (od (q.map (·.1)) ps))).map uh)]):=by
 subst hn
 refine bZ U λb O hb hG=>xS ?_
 refine sP VE U U λGM=>?_
 refine xA ?_
 intro b5
 refine X.dE (fE (p:=(([]:Y (av×aR)).map (·.1)=qC []/\∀y∈([]:Y (av×aR)),∃b,y.2=bu b)) ⟨U,λy hy=>by cases hy⟩ _) ?_
 refine gr ui (b5,GM) (qC []) U [] ?_
 refine fR [0,1,5,11] [0] (ι:={i:ab // i<=q.length}) (λi q_=>(12,bR q.length)::(13,bR i.1)::q_) (λi q_=>ui (b5,GM) (qC ((q.map (·.1)).take i.1))::q_) (λi=>q.length - i.1) ⟨0,bp _⟩ ?_
 rintro⟨i,hi⟩ ih
 dsimp only at hi ⊢
 refine xB ?_ ?_<;>intro h
 ·have hi:i<q.length:=bQ;have hgt:=RC (q.map (·.1)) i K5;rw[gG]at hgt;refine xS ?_;refine dJ U U U U U hi U λbl o=>xS ?_;refine E1 q i hi ?_;refine X.l8 ui (b5,GM) U λz=>?_;dsimp only[bh,bk,bj];refine mF λhz=>?_;obtain⟨x,hxq⟩:∃x,x=q[i]:=⟨_,U⟩;have yF:q.set i x=q:=bt1;simp only[<-hxq]at hgt ⊢;obtain⟨⟨no,data,wN,gw⟩,xb,⟨xa,xc⟩,⟨ya,yc⟩⟩:=x;dsimp only[SI.cs]at hgt ⊢;clear hxq;refine fU 6 [0,2] ?_;refine xL [0,1,2,3,4,5] ?_;refine xS ?_;refine rM no Cr U U U U (xS ?_);refine X.dE (fE (p:=((iT z no (bu xb)).map (·.1)=qC ((q.map (·.1)).take (i+1))/\∀y∈iT z no (bu xb),∃b,y.2=bu b)) ⟨by grind [tZ],rJ (p:=λv=>∃b,v=bu b) hz.2 ⟨xb,U⟩⟩ _) ?_;refine gr ui (b5,GM) (qC ((q.map (·.1)).take (i+1))) U (iT z no (bu xb)) ?_;refine Am q i hi (⟨no,data,wN,gw⟩,xb,(xa,xc),(ya,yc)) ?_;rw[yF];exact bc2
 have gj:i=q.length:=bQ
 subst gj
 rw[bI dW]
 clear ih hi h
 refine xQ (T4 pM G 378 [bu b5] (ui (b5,GM)) (λ_=>True) a _ c q U hs hd pa pn pc ps hpn hps (qC (q.map (·.1))) trivial (λ_ _ _ _ _=>trivial) (λx p r z hx _=>V' G (b5,GM) x p r z)) ?_
 have hgg:qB pM (q.map (·.1)) ps (qC (q.map (·.1)))=pN (q.map (·.1)) ps:=U
 rw[hgg]
 have BR:∀s,od (q.map (·.1)) ps s=decide (s.no∈pN (q.map (·.1)) ps):=λ_=>rfl
 have hcb:nj (q.map (·.1)) ps=decide ((pN (q.map (·.1)) ps).length<q.length):=by grind [nj]
 rw[hcb]
 generalize od (q.map (·.1)) ps=f at*
 generalize pN (q.map (·.1)) ps=gd at*
 refine xS ?_
 refine fR [0,5,28] [3,3,0] (ι:={i:ab // i<=q.length}) (λi q_=>(29,bR q.length)::(30,bR i.1)::q_) (λi q_=>dZ ((CM f q i.1).map uh)::q_) (λi=>q.length - i.1) ⟨0,bp _⟩ ?_
 rintro⟨i,hi⟩ ih
 dsimp only at hi ⊢
 refine xB ?_ ?_<;>intro h
 ·have hi:i<q.length:=bQ;obtain⟨x,hx⟩:∃x,x=q[i]:=⟨_,U⟩;obtain⟨Q,hQ⟩:∃Q,Q=CM f q i:=⟨_,U⟩;have hiQ:i<Q.length:=by grind [Oj]
  have hbg:Q[i]=x:=by grind [ag5]
  have hbs:Q.set i (lh f x)=CM f q (i+1):=by grind [ag4]
  rw[<-hQ];refine xS ?_;refine dJ U U U U U hi U λbl o=>?_;rw[<-hx];refine xS ?_;refine E1 Q i hiQ ?_;simp only[hbg];refine X.l8 ui (b5,GM) U λz=>?_;dsimp only[bh,bk,bj];refine mF λhz=>?_;clear hx hQ;obtain⟨⟨no,data,wN,gw⟩,xb,⟨xa,xc⟩,⟨ya,yc⟩⟩:=x;have hfn:=BR ⟨no,data,wN,gw⟩;dsimp only[SI.cs,lh]at hbs hfn ⊢;refine xS ?_;refine fU 5 [0,2] ?_;refine xL [0,1,2,3,4] ?_;refine xS ?_;refine sQ no Cr U U U U (λw _=>ze.run ax w) ?_;have D5:(gM z no).isSome=decide (no∈gd):=by
   grind [gM]
  cases hm:gM z no with
  |none=>
   rw[hm]at D5;have D5:decide (no∈gd)=aQ:=D5.symm;rw[hfn,D5,Bool.and_false]at hbs;dsimp only[Option.getD_none];refine xS ?_;refine X.dE (fE hz _) ?_;refine gr ui (b5,GM) gd U z ?_;refine Am Q i hiQ (⟨no,data,aQ,gw⟩,xb,(xa,xc),(ya,yc)) ?_;exact bc7
  |some v=>
   rw[hm]at D5;have D5:decide (no∈gd)=aP:=D5.symm;rw[hfn,D5,Bool.and_true]at hbs;obtain⟨vb,rfl⟩:∃vb,v=bu vb:=by
    grind [gM,cz]
   dsimp only[dz];refine xS ?_;refine X.dE (fE hz _) ?_;refine gr ui (b5,GM) gd U z ?_;refine Am Q i hiQ (⟨no,data,wN,gw⟩,xb,(xa,xc),(ya,yc)) ?_;exact bc7
 have gj:i=q.length:=bQ
 subst gj
 have hbe:CM f q q.length=q.map (lh f):=by grind [CM]
 rw[hbe]
 refine X.l8 ui (b5,GM) U λz=>?_
 dsimp only[bh,bk,bj]
 refine mF λhz=>?_
 have D5:z.length=gd.length:=by rw[<-hz.1,bF]
 refine xS ?_
 refine P4 U U U ?_
 rw[D5]
 refine xS ?_
 exact cT hb (.tmps U) ⟨by simp[mv],U⟩
end
section
variable{F:Y bG}{ps:Y Place}{l':Y Src}{ts:Y av}{name:Bs}{σ:Type}{cap:ae}(s:Src)(x:WB ca)(f:SI->SI)(l:Y Src)(d:fu)(ks:Y Bs)(i:ab)(p:Place)(a:ah aX)(q:Y SI)(y:SI)(n c:ab)
abbrev bt2(k:ab×ab)(d:fu):bG:=dZ [bx k.1 133 [bu k.2],jc k.2 d]
def RE(data:Bs)(at_:ae):Bs:=if dD (cX data at_).1=0 then fV (cX data at_).1 else[]
def pO(d:fu)(s:Src)(p:Place)(_:ai):fu:=(d.settle p (RE s.data p.at_)).1
theorem DI(p:Place)(body:Bs):∀d:fu,eZ (d.settled p body)<=eZ d
 |[]=>bz _
 |x::r=>by
  have ih:=DI p body r;have h1:=EH p body x.2 [];have h2:eZ (x::r)=x.2.length+eZ r:=by unfold eZ;simp
  rw[h2];unfold fu.settled at*;rw[fZ];split
  ·omega
  ·rename_i y h3;split at h3
   ·cases h3
   ·cases h3;have h4:∀z (l:fu),eZ (z::l)=z.2.length+eZ l:=λz l=>by unfold eZ;simp
    rw[h4];have h5:(GK p body x.2).length<=x.2.length:=by
     unfold GK;simpa using h1
    dsimp only;omega
theorem GU(body:Bs):eZ (d.settle p body).1<=eZ d:=by
 grind [fu.settle,DI]
theorem Om(k:ab×ab)(x:SI)(p:Place)(r:ai)(d:fu)(jT:x.1.data.length<=x.2.2.1.2)(mX:x.1.data.length<=1000000000)(iP:eZ d<=1000000000):
 TR be GG 289 (([]:Y aR)++[bu x.2.1,p.v,.bool r]++[bu k.1]).toArray [bx x.2.1 283 x.cs,dp RB 1 x.2.2.1.1 x.1.data,bt2 k d] (dC λv B=>v=.tuple #[]/\B=[bx x.2.1 283 x.cs,bt2 k (pO d x.1 p r)]):=by
 obtain⟨⟨no,data,wN,gw⟩,bb,⟨da,dc⟩,⟨pa,pc⟩⟩:=x
 obtain⟨k2,K⟩:=k
 refine TR.go (us:=[_,_,_,_]) (bH U) λb O hb hG=>?_
 dsimp only[SI.cs]at*
 refine mc [bx k2 133 [bu K],jc K d] ?_
 dsimp only[bh,bk,bj]
 have hstp:pO d ⟨no,data,wN,gw⟩ p r=(d.settle p (RE data p.at_)).1:=U
 rw[hstp]
 unfold RE
 refine xP ?_
 intro b5
 refine tq [3,5] [] (ι:=ab) (λb7 q_=>(7,bu b7)::q_) (λb7 q_=>bx b7 220 (cX data p.at_).1.cs::q_) ?fin ?main
 case main=>
  intro KK dF;refine ph [0,1,2,3,4,5,7,8,9,10] [3,0] ?_;refine xL [0,1,2,3,4,5] ?_;refine eN U U U U U ?_ ?_
  ·refine xJ (rE GG da _ dc data p.at_ U jT bw) ?_;refine xL [7] ?_;refine xL [8] ?_;refine xL [9] ?_;refine xL [10] ?_;refine xA ?_;intro b7;exact X.W (dF b7)
  ·refine xA ?_;intro b7;refine xJ (rE GG da _ dc data p.at_ U jT bw) ?_;refine xL [8,9,10] ?_;refine xS ?_;exact X.W (dF b7)
 case fin=>
  intro b7;refine xS ?_;refine cP (qa GG (cX data p.at_).1) ?_;rintro v B (⟨h0,a7,c7,rfl,rfl⟩|⟨h0,rfl,rfl⟩)
  ·rw[ao h0];have zX:=uf h0;refine xD ?_;refine Ab U U U U  ?_;refine xE (GP GG K p _ d iP) ?_;refine hU [bx k2 133 [bu K],jc K (d.settle p (fV (cX data p.at_).1)).1] ?_;exact xF
  ·rw[aj h0];dsimp only[bh,bk,bj];refine ku au RB 1  ?_;refine xE (GP GG K p _ d iP) ?_;refine hU [bx k2 133 [bu K],jc K (d.settle p []).1] ?_;exact xF
def nR(l:Y Src)(d:fu):fu:=qB pO l d.kZ d
theorem yh{step:σ->Src->Place->ai->σ}{I:σ->Prop}(hs:∀z s p r,I z->I (step z s p r))(l:Y Src)(ps:Y Place)(z:σ)(h:I z):I (qB step l ps z):=by
 have h1:∀(s:Src) (p:Place) (xs:Y Ptr) (z:σ),I z->I (zG step s p z xs):=by
  intro s p xs;induction xs<;>grind [zG]
 have h2:∀(z:σ) (p:Place),I z->I (Ry step l z p):=by
  grind [Ry]
 unfold qB;induction ps generalizing z<;>grind
theorem ry(h:eZ d<=n):eZ (nR l d)<=n:=
 yh (I:=λd=>eZ d<=n) (λz s p _ h=>bo (GU z p _) h) l d.kZ d h
theorem GV(K:ab)(d:fu)(a:ah aX)(n c:ab)(q:Y SI)(hn:q.length=n)(hs:n<=1000000000000)(hd:∀x∈q,x.1.data.length<=x.2.2.1.2/\x.1.data.length<=1000000000/\x.1.gw.length<=1000000000)(iP:eZ d<=1000000000):
 TR be GG 180 #[bu K,.slice a n c] [jc K d,dp (cy GR) 1 a q,dZ (q.map uh),Bh q] (dC λv B=>v=.tuple #[]/\B=[jc K (nR (q.map (·.1)) d),dZ (q.map uh)]):=by
 refine bZ U λb O hb hG=>?_
 have N2:=zF d
 refine xP ?_
 intro b2
 refine cP (CK GG K d iP) ?_
 rintro v B ⟨a6,c6,rfl,rfl⟩
 dsimp only[bh,bk,bj]
 have hse:nR (q.map (·.1)) d=qB pO (q.map (·.1)) d.kZ d:=U
 rw[hse]
 generalize d.kZ=ps at*
 refine dR a6 Place.cs ps U U (λ_=>rfl) λ_=>xS ?_
 refine hU [bx b2 133 [bu K],jc K d] ?_
 refine xQ (T4 pO GG 289 [bu b2] (bt2 (b2,K)) (λd=>eZ d<=1000000000) a n c q hn hs (λx hx=>(hd x hx).2) a6 _ c6 ps U bw d iP (λz s p _ h=>bo (GU z p _) h) (λx p r z hx hz=>Om (b2,K) x p r z (hd x hx).1 (hd x hx).2.1 hz)) ?_
 refine mc [bx b2 133 [bu K],jc K (qB pO (q.map (·.1)) ps d)] (xD ?_)
 exact xF
def ag7(l:Y ca)(nm:Bs):ah Bs:=(l.reverse.find? λf=>f.name==nm).map (·.data)
def qY(l:Y ca)(f:ca):ah Src:=
 if(cR f.name).1≠1 then aO else
 match(if(gp f.name).2=aP then ag7 l (gp f.name).1 else aO)with
 |none=>aN ⟨(cR f.name).2,f.data,aQ,[]⟩
 |some h=>aN ⟨(cR f.name).2,f.data,(iF h (jD f.data)).2==1,(iF h (jD f.data)).1⟩
def uY(l:Y ca):Y Src:=l.filterMap (qY l)
abbrev slV(x:WB ca):aR:=.slice x.2.1 x.1.data.length x.2.2
def fmQ(q:Y (WB ca)):Y (Bs×aR):=q.foldl (λM x=>iT M x.1.name (slV x)) []
theorem ag8(q:Y (WB ca))(i:ab)(h:i<q.length):fmQ (q.take (i+1))=iT (fmQ (q.take i)) q[i].1.name (slV q[i]):=by
 grind [fmQ,cg]
theorem aI7(q:Y (WB ca))(nm:Bs):gM (fmQ q) nm=(q.reverse.find? λx=>x.1.name==nm).map slV:=by
 have key:∀(r:Y (WB ca)),gM (fmQ r.reverse) nm=(r.find? λx=>x.1.name==nm).map slV:=by
  intro r;induction r with
  |nil=>rfl
  |cons x r ih=>
   grind [fmQ,oC]
 grind
theorem bt4(q:Y (WB ca))(nm:Bs):ag7 (q.map (·.1)) nm=(q.reverse.find? λx=>x.1.name==nm).map λx=>x.1.data:=by
 unfold ag7;rw[<-List.map_reverse,List.find?_map,Option.map_map];rfl
section
variable {b:bc}{O:de}{k:Kt}{E:Env}{H:Y bG}{R:aZ->Y bG->Prop}{cc:ah (ar aW×Y aW)}
theorem bB8{F2:Y bG}[hf:FP H (Bh q) F][MI:FP H (Bh [y]) F2](h:X be b O cc k E (Bh (q++[y])::H) R):X be b O cc k E H R:=by
 refine X.dE ?_ h;intro r o hh;obtain⟨_,_,_,_,_,l6,_⟩:=hf.out r o hh;obtain⟨_,_,_,_,_,vo,_⟩:=MI.out r o hh;exact a04
theorem XT(h1:y.1.data.length<=y.2.2.1.2)(h2:y.2.2.1.1=aO->y.1.data.length=0/\y.2.2.1.2=0){F2:Y bG}[hf:FP H (dp RB 1 y.2.2.1.1 y.1.data) F][MI:FP H (dp (cy Ptr.cs) 5 y.2.2.2.1 y.1.gw) F2](h:X be b O cc k E (Bh [y]::H) R):X be b O cc k E H R:=by
 refine X.dE ?_ h;intro r o hh;obtain⟨_,_,_,_,_,l6,_⟩:=hf.out r o hh;obtain⟨_,_,_,_,_,vo,_⟩:=MI.out r o hh;refine⟨gI,o,ef _,dQ _,.refl _,λr' pg x hx=>?_,hh⟩;exact bc8
theorem bD3(h:X be b O cc k E (Bh []::H) R):X be b O cc k E H R:=
 X.dE (Hs':=Bh []::H) (λ_ o hs=>⟨gI,o,ef _,dQ _,.refl _,λ_ _ x hx=>vE,hs⟩) h
theorem aw1[hE:ES H [dZ (q.map uh),bx y.2.1 283 y.cs] F](h:X be b O cc k E (dZ ((q++[y]).map uh)::F) R):X be b O cc k E H R:=by
 refine X.dE (hE.out.trans ?_) h;refine(iR (q.map uh) _).trans ?_;have e:(q++[y]).map uh=q.map uh++[uh y]:=dW;rw[e];have:=iE (q.map uh++[uh y]) F;rw[cB]at this;exact this
end
instance:ze be 55 (.slice aO 0 0):=⟨by kernel_rfl⟩
theorem Lq{h:Bs}{p:Prn}(hw:(iF h p).2≠1):(iF h p).1=[]:=by
 grind [iF]
theorem RF(q:Y (WB ca))(hn:q.length=n)(hs:n<=1000000000000)(hb:∀x∈q,x.1.name.length<=1000000/\x.1.data.length<=1000000000):
 TR be GG 176 #[.slice a n c] [dp (cy bY) 2 a q,eQ ca.data q] (dC λv B=>∃a6 c6,∃q6:Y SI,q6.map (·.1)=uY (q.map (·.1))/\v=.slice a6 q6.length c6/\B=[own 280 1 a6 q6.length c6 (q6.flatMap GR),dZ (q6.map uh),Bh q6]):=by
 subst hn
 refine dH U λb O VH hG=>xS ?_
 refine sP bn U U λBM=>xS ?_
 refine fR [0,3,19] [0] (ι:={i:ab // i<=q.length}) (λi q_=>(20,bR q.length)::(21,bR i.1)::q_) (λi q_=>mp bn BM (fmQ (q.take i.1))::q_) (λi=>q.length - i.1) ⟨0,bp _⟩ ?_
 rintro⟨i,hi⟩ ih
 dsimp only at hi ⊢
 refine xB ?_ ?_<;>intro h
 ·have hi:i<q.length:=bQ;have hft:=ag8 q i hi;refine xS ?_;refine dJ U U U U U hi U λbl o=>?_;generalize q[i]=x at*;refine xS ?_;refine eT U U U U  ?_;refine xA ?_;intro b5;refine rM x.1.name dy U U U U ?_;rw[<-hft];exact TY
 have gj:i=q.length:=bQ
 subst gj
 rw[bV]
 clear ih hi h
 have hsr:uY (q.map (·.1))=(q.map (·.1)).filterMap (qY (q.map (·.1))):=U
 rw[hsr]
 have hbg:=bt4 q
 have Iu:∀f,qY (q.map (·.1)) f=if(cR f.name).1≠1 then aO else
  match(if(gp f.name).2=aP then ag7 (q.map (·.1)) (gp f.name).1 else aO)with
  |none=>aN ⟨(cR f.name).2,f.data,aQ,[]⟩
  |some h=>aN ⟨(cR f.name).2,f.data,(iF h (jD f.data)).2==1,(iF h (jD f.data)).1⟩:=λ_=>rfl
 generalize qY (q.map (·.1))=sof at*
 generalize ag7 (q.map (·.1))=bg at*
 refine xS ?_
 refine X.dE (fh 280 1 _) ?_
 refine bD3 ?_
 refine hU ([]:Y bG) ?_
 refine fR [3,31] [2,0,0] (ι:={z:ab×(ah aX×ab)×Y SI // z.1<=q.length/\z.2.2.map (·.1)=((q.map (·.1)).take z.1).filterMap sof}) (λz q_=>(6,.slice z.1.2.1.1 z.1.2.2.length z.1.2.1.2)::(32,bR q.length)::(33,bR z.1.1)::q_) (λz q_=>own 280 1 z.1.2.1.1 z.1.2.2.length z.1.2.1.2 (z.1.2.2.flatMap GR)::dZ (z.1.2.2.map uh)::Bh z.1.2.2::q_) (λz=>q.length - z.1.1) ⟨(0,(aO,0),[]),bp _,U⟩ ?_
 rintro⟨⟨i,⟨a6,c6⟩,Q⟩,hi,hQ⟩ ih
 dsimp only at hi hQ ⊢
 have hQl:Q.length<=q.length:=by
  grind [List.length_filterMap_le]
 refine xB ?_ ?_<;>intro h
 ·have hi:i<q.length:=bQ
  have jv:=bE hi
  obtain⟨hb1,S9⟩:=hb _ jv
  have xz:((q.map (·.1)).take (i+1)).filterMap sof=((q.map (·.1)).take i).filterMap sof++(sof q[i].1).toList:=by
   grind [cg]
  rw[<-hQ]at xz
  refine nH (data:=ca.data) q q[i] jv λjT mX=>?_
  have T5:=Iu q[i].1
  refine xS ?_
  refine dJ U U U U U hi U λbl o=>?_
  generalize q[i]=x at*
  refine xS ?_
  refine eT U U U U  ?_
  refine xA ?_
  intro b8
  refine xJ (n4 x.1.name bw) ?_
  refine xB ?_ ?_<;>intro h1
  ·have h1:(cR x.1.name).1≠1:=by
    grind
   rw[ao h1]at T5;rw[T5,Option.toList,bj]at xz;refine xS ?_;exact X.W (ih ⟨(i+1,(a6,c6),Q),by omega,xz.symm⟩ bQ)
  have h1:¬(cR x.1.name).1≠1:=by
   grind
  rw[aj h1]at T5
  refine xP ?_
  intro yP
  refine xJ (xY x.1.name bw) ?_
  refine tq [3,6,11,31,32,33] [0,0,0,0] (ι:={y:Src×(ah aX×ab) // sof x.1=aN y.1/\y.1.data=x.1.data}) (λy q_=>q_) (λy q_=>bx yP 283 (SI.cs (y.1.1,yP,x.2,y.1.2))::Bh [((y.1.1,yP,x.2,y.1.2):SI)]::q_) ?fin ?main
  case fin=>
   rintro⟨⟨y,pa,pc⟩,hy,hyd⟩;dsimp only at hy hyd ⊢;rw[hy]at xz;refine xZ ?_;intro b83;refine fH (((y,yP,x.2,(pa,pc)):SI)) U U U U bw U cE cE cE cE cE bw λa84 c84=>xS ?_;refine bB8 Q ((y,yP,x.2,(pa,pc)):SI) ?_;refine aw1 Q ((y,yP,x.2,(pa,pc)):SI) ?_;have KC:(Q++[((y,yP,x.2,(pa,pc)):SI)]).map (·.1)=Q.map (·.1)++[y]:=dW;exact X.W (ih ⟨(i+1,(a84,c84),Q++[((y,yP,x.2,(pa,pc)):SI)]),by omega,by grind⟩ bQ)
  case main=>
   intro KK dF;have nopair:(match(aO:ah Bs)with
    |none=>aN (⟨(cR x.1.name).2,x.1.data,aQ,[]⟩:Src)
    |some h=>aN ⟨(cR x.1.name).2,x.1.data,(iF h (jD x.1.data)).2==1,(iF h (jD x.1.data)).1⟩)=aN ⟨(cR x.1.name).2,x.1.data,aQ,[]⟩:=U
   refine xB ?_ ?_<;>intro h2
   ·have h2:(gp x.1.name).2=aP:=h2;rw[ao h2,hbg]at T5;have hfg:=aI7 q (gp x.1.name).1;refine xS ?_;refine PR (gp x.1.name).1 U U U U ?_;rw[hfg];cases bc9:q.reverse.find? (λx_1=>x_1.1.name==(gp x.1.name).1)with
    |none=>
     rw[bc9]at T5;dsimp only[Option.map_none,Option.getD_none,Option.isSome_none]at T5 ⊢;exact bd0
    |some hf=>
     rw[bc9]at T5;have hhm:hf∈q:=bQ;obtain⟨hh1,hh2⟩:=hb _ hhm;dsimp only[cO,dz,Option.isSome_some]at T5 ⊢;refine nH (data:=ca.data) q hf hhm λH3 hy2=>?_;refine xJ (FF GG x.2.1 _ x.2.2 x.1.data U jT bw) ?_;refine cP (Ch GG hf.2.1 _ hf.2.2 hf.1.data (jD x.1.data) U H3 hh2) ?_;have hwn:=@Lq hf.1.data (jD x.1.data);generalize iF hf.1.data (jD x.1.data)=W at*;rintro v B (⟨hw,a5,c5,rfl,rfl⟩|⟨hw,rfl,rfl⟩)
     ·dsimp only[bh,bk,bj];refine dR a5 Ptr.cs W.1 U U (λ_=>rfl) λ_=>xS ?_;have Rl:(W.2==1)=aP:=by rw[hw];rfl
      simp only[beq_self_eq_true];rw[Rl]at T5;refine XT ((⟨(cR x.1.name).2,x.1.data,aP,W.1⟩,yP,x.2,(a5,c5)):SI) jT mX ?_;exact X.W (dF ⟨(⟨(cR x.1.name).2,x.1.data,aP,W.1⟩,(a5,c5)),T5,U⟩)
     ·dsimp only[bh,bk,bj];have Rl:(W.2==1)=aQ:=bQ;rw[Rl,hwn hw]at T5;refine xS ?_;rw[Rl];exact bW7
   ·have h2:¬(gp x.1.name).2=aP:=bQ;rw[aj h2]at T5;exact bd0
 have gj:i=q.length:=bQ
 subst gj
 rw[bI dW]at hQ
 refine xS ?_
 exact X.ret VH (.tmps U) ⟨_,⟨a6,c6,Q,hQ,U,U⟩,bA⟩
theorem JA{α:Type}(p:α->ai):∀(l:Y α) (k:ab),0<=dM p k l->∃(j:ab) (h:j<l.length),dM p k l=((k+j:ab):ae)/\p l[j]=aP
 |[],_,h=>by grind [dM]
 |x::r,k,h=>by
  unfold dM at h ⊢;split
  ·rename_i hp;exact⟨0,by simp,by simp,hp⟩
  ·rename_i hp;rw[aj hp]at h;obtain⟨j,hj,h1,h2⟩:=JA p r (k+1) h;exact⟨j+1,by simp;omega,by omega,h2⟩
theorem RG{step:σ->Src->Place->ai->σ}{I:σ->Prop}(hs:∀z s p r,s∈l->s.wN=aP->I z->I (step z s p r))(ps:Y Place)(z:σ)(h:I z):I (qB step l ps z):=by
 have h1:∀(s:Src) (p:Place) (xs:Y Ptr) (z:σ),s∈l->s.wN=aP->I z->I (zG step s p z xs):=by
  intro s p xs;induction xs<;>grind [zG]
 have h2:∀(z:σ) (p:Place),I z->I (Ry step l z p):=by
  grind [Ry,JA,vt,Oi]
 unfold qB;induction ps generalizing z<;>grind
theorem JB:∀(l:Y Src) (g:Y av),(g++l.map (·.no)).Nodup->l.foldl (λg s=>if s.no∈g then g else g++[s.no]) g=g++l.map (·.no)
 |[],g,_=>by simp
 |s::r,g,h=>by
  have hn:s.no∉g:=by
   intro hm;rw[fN]at h;exact h.2.2 s.no hm s.no dW U
  rw[eD,aj hn,JB r (g++[s.no]) Au];simp
theorem GW{l:Y Src}(h:(l.map (·.no)).Nodup):qC l=l.map (·.no):=by
 grind [qC,JB]
theorem GX(ps:Y Place):(pN l ps).Sublist (qC l):=by
 unfold pN;refine yh (I:=λg:Y av=>g.Sublist (qC l)) ?_ l ps _ (List.Sublist.refl _);intro z s p r h;unfold pM;split
 ·exact h
 ·exact List.erase_sublist.trans h
theorem Wb{l:Y Src}(h:(l.map (·.no)).Nodup)(hb:nj l ps=aQ):oZ l ps=l:=by
 have h1:=GX l ps;rw[GW h]at h1;unfold nj at hb;have h2:pN l ps=l.map (·.no):=bQ;unfold oZ;rw[h2];conv=>rhs;rw[<-List.map_id l]
 refine cY λs hs=>?_;have:s.no∈l.map (·.no):=cu.2 ⟨s,hs,U⟩;simp[this]
theorem aI8{α:Type}:∀{g k:Y α},g.Sublist k->k.Nodup->(∀x∈k,x∈g)->g=k:=by
 intro g k h;induction h<;>grind
def GY(l:Y Src):ab:=l.countP (·.wN)
theorem bd1:∀{l:Y Src},(l.map (·.no)).Nodup->∀{s t:Src},s∈l->t∈l->s.no=t.no->s=t
 |[],_,s,t,h,_,_=>by cases h
 |x::r,hn,s,t,h1,h2,he=>by
  rw[bN,gy]at hn;rcases cW.1 h1 with h3|h1
  ·rcases cW.1 h2 with h4|h2
   ·rw[h3,h4]
   ·exact aD (cu.2 ⟨t,h2,by rw[<-he,h3]⟩) hn.1
  ·rcases cW.1 h2 with h4|h2
   ·exact aD (cu.2 ⟨s,h1,by rw[he,h4]⟩) hn.1
   ·exact bd1 hn.2 h1 h2 he
theorem JC{α:Type}{p q:α->ai}:∀{l:Y α},(∀x∈l,q x=aP->p x=aP)->(∃x∈l,p x=aP/\q x=aQ)->l.countP q<l.countP p
 |[],_,h=>by grind
 |y::r,h1,h2=>by
  have hle:r.countP q<=r.countP p:=List.countP_mono_left λx hx=>h1 x (List.mem_cons_of_mem _ hx)
  rw[List.countP_cons,List.countP_cons]
  obtain⟨x,hx,hp,hq⟩:=h2
  rcases cW.1 hx with rfl|hx
  ·grind
  ·have ih:=JC (l:=r) (λx hx=>h1 x (List.mem_cons_of_mem _ hx)) ⟨x,hx,hp,hq⟩
   grind
theorem JD{l:Y Src}(h:(l.map (·.no)).Nodup)(hb:nj l ps=aP):GY (oZ l ps)<GY l:=by
 have hun:∀s∈l,s.wN=aQ->s.no∈pN l ps:=by
  unfold pN;refine RG (I:=λg=>∀s∈l,s.wN=aQ->s.no∈g) l ?_ ps _ ?_;all_goals grind [pM,bd1,GW]
 have hex:∃s∈l,s.wN=aP/\s.no∉pN l ps:=by
  grind [GX,GW,aI8,nj]
 unfold GY oZ
 rw[List.countP_map]
 obtain⟨s,hs,h1,h2⟩:=hex
 refine JC (λx _ hq=>?_) ⟨s,hs,h1,by simp[h2]⟩
 grind
def Src.rest(s:Src):av×Bs×Y Ptr:=(s.no,s.data,s.gw)
def jF(l:Y Src):ab:=(l.map λs=>s.data.length+s.gw.length).sum
theorem On(ps:Y Place):(oZ l ps).map Src.rest=l.map Src.rest:=by
 unfold oZ;rw[dK];rfl
theorem Bj{l:Y Src}(h:l'.map Src.rest=l.map Src.rest):l'.map (·.no)=l.map (·.no):=by
 have:=aH (List.map λx:av×Bs×Y Ptr=>x.1) h;rw[dK,dK]at this;exact this
theorem wP{l:Y Src}(h:l'.map Src.rest=l.map Src.rest):jF l'=jF l:=by
 have:=aH (λz=>(List.map (λx:av×Bs×Y Ptr=>x.2.1.length+x.2.2.length) z).sum) h;simp only[dK]at this;exact this
theorem ag9{l:Y Src}(h:l'.map Src.rest=l.map Src.rest):l'.length=l.length:=by
 have:=aH eP h;grind
theorem GZ{l:Y Src}{s:Src}(h:s∈l):s.data.length+s.gw.length<=jF l:=by
 unfold jF;induction l<;>grind
theorem Oo:(iZ s).length<=s.data.length+s.gw.length:=by
 grind [iZ,sg,cq]
theorem sk:kU l<=jF l:=by
 unfold kU jF;induction l<;>grind [Oo]
theorem yi:(jb l).ok/\eZ (jb l)<=kU l:=by
 have key:∀(l:Y Src) (d:fu),d.ok->(l.foldl Bi d).ok/\eZ (l.foldl Bi d)<=eZ d+kU l:=by
  intro l;induction l<;>grind [rP,kU,Bi]
 have:=key l [] ⟨List.nodup_nil,λx hx=>vE,λx hx=>vE⟩
 grind [eZ,jb]
def o0(d:fu)(ks:Y Bs):Y Place:=ks.filterMap λk=>if(d.last k).2=0/\(d.last k).1.open_=aQ then aN (d.last k).1.place else aO
def yj(l:Y Src):Y Place:=o0 (nR l (jb l)) (sortStr ((sj l).map (·.1)))
def o7(l:Y Src):ah (Y Src):=
 if nj l (jb l).kZ=aP then aN (oZ l (jb l).kZ)
 else if nj l (yj l)=aP then aN (oZ l (yj l))else aO
def o8:ab->Y Src->Y Src
 |0,l=>l
 |n+1,l=>match o7 l with
  |none=>l
  |some l'=>o8 n l'
def jO(l:Y Src):Y Src:=o8 (GY l+1) l
theorem rz{l:Y Src}(h:(l.map (·.no)).Nodup)(h1:o7 l=aN l'):GY l'<GY l/\l'.map Src.rest=l.map Src.rest:=by
 unfold o7 at h1;split at h1
 ·exact bd2
 ·split at h1
  ·exact bd2
  ·cases h1
theorem Bk:∀(n m:ab) (l:Y Src),(l.map (·.no)).Nodup->GY l<n->GY l<m->o8 n l=o8 m l
 |0,_,_,_,h,_=>by omega
 |_+1,0,_,_,_,h=>by omega
 |n+1,m+1,l,hn,h1,h2=>by
  unfold o8;cases hs:o7 l with
  |none=>rfl
  |some l'=>
   obtain⟨h3,h4⟩:=rz hn hs;exact Bk n m l' (by rw[Bj h4];exact hn) bw bw
theorem Lr{l:Y Src}(h:o7 l=aO):jO l=l:=by
 grind [jO,o8]
theorem Ls{l:Y Src}(hn:(l.map (·.no)).Nodup)(h:o7 l=aN l'):jO l=jO l':=by
 grind [rz,jO,o8,Bk,Bj]
theorem Bl:∀(n:ab) (l:Y Src),(l.map (·.no)).Nodup->(o8 n l).map Src.rest=l.map Src.rest
 |0,_,_=>rfl
 |n+1,l,hn=>by
  unfold o8;cases hs:o7 l with
  |none=>rfl
  |some l'=>
   obtain⟨_,h4⟩:=rz hn hs;exact(Bl n l' (by rw[Bj h4];exact hn)).trans h4
theorem Bm{l:Y Src}(hn:(l.map (·.no)).Nodup):(jO l).map Src.rest=l.map Src.rest:=Bl _ l hn
section
variable {b:bc}{O:de}{k:Kt}{E:Env}{H:Y bG}{R:aZ->Y bG->Prop}{cc:ah (ar aW×Y aW)}
theorem aS3[hf:FP H (Bh q) F](h:(∀x∈q,x.1.data.length<=x.2.2.1.2)->X be b O cc k E H R):X be b O cc k E H R:=by
 refine j9 λw hs=>?_;have h1:=Sat.ro (hs.dE hf.out);exact⟨_,hs,h λx hx=>(h1 x hx).1.1⟩
theorem aI9{a:ah aX}{q q':Y SI}(h:q'.map (λx=>x.2.1)=q.map (λx=>x.2.1)){r:Hp}(hr:xm (cy GR) 1 a q r):xm (cy GR) 1 a q' r:=by
 have hl:q'.length=q.length:=by have:=aH eP h;simpa using this
 rcases hr with h3|⟨b,o',ha,h4⟩
 ·left;rw[h3]at hl;exact List.length_eq_zero_iff.1 (by simpa using hl)
 ·refine .inr ⟨b,o',ha,λi x hx=>?_⟩;have hi:i<q'.length:=(List.getElem?_eq_some_iff.1 hx).1;have mX:q'[i]=x:=(List.getElem?_eq_some_iff.1 hx).2;have Ds:i<q.length:=bw;obtain⟨l,h5,h6,h7⟩:=h4 i q[i] (bX Ds);refine⟨l,h5,h6,?_⟩;have h8:q'[i].2.1=q[i].2.1:=by
   have:=aH (λz=>z[i]?) h;simp only[eX,bX hi,bX Ds,cO,gR]at this;exact this
  show l=GR x;rw[<-mX];show l=[bu q'[i].2.1];rw[h8];exact h7
theorem PX(q':Y SI)(hq:q'.map (λx=>x.2.1)=q.map (λx=>x.2.1))[hf:FP H (dp (cy GR) 1 a q) F](h:X be b O cc k E (dp (cy GR) 1 a q'::H) R):X be b O cc k E H R:=
 X.dE (js (p:=xm (cy GR) 1 a q) hf.out λ_ hr=>aI9 hq hr) h
end
theorem G0(f:Src->ai)(q:Y SI):(q.map (lh f)).map (λx=>x.2.1)=q.map (λx=>x.2.1):=by rw[dK];rfl
theorem G1(f:Src->ai)(q:Y SI):∀y∈q.map (lh f),∃x∈q,y.1.data=x.1.data/\y.1.gw=x.1.gw/\y.2.2=x.2.2:=by
 intro y hy;obtain⟨x,hx,rfl⟩:=cu.1 hy;exact⟨x,hx,U,U,U⟩
theorem Lt(h:i<ks.length):o0 d (ks.take (i+1))=if(d.last ks[i]).2=0/\(d.last ks[i]).1.open_=aQ then o0 d (ks.take i)++[(d.last ks[i]).1.place]else o0 d (ks.take i):=by
 unfold o0;rw[cg,List.filterMap_append,bX h];split<;>rename_i hp<;>simp[hp]
theorem Oq:(o0 d (ks.take i)).length<=ks.length:=
 bo (List.length_filterMap_le _ _) (by rw[dG];omega)
theorem Wc(l:Y Seen):(vu l).length<=l.length:=by
 have key:∀(l:Y Seen) (M:Y (Bs×aR)),(l.foldl (λM s=>iT M s.key GS) M).length<=M.length+l.length:=by
  intro l;induction l with
  |nil=>exact λM=>bz _
  |cons x r ih=>
   intro M;rw[eD];have h1:=ih (iT M x.key GS);have h2:(iT M x.key GS).length<=M.length+1:=by
    have:=aH eP (tZ M x.key GS);rw[bF]at this;rw[this];split<;>simp
   exact a86
 have:=key l [];simpa[vu]using this
theorem RH:(sj l).length<=kU l:=by
 unfold sj;refine bo (Wc _) ?_;rw[List.length_flatMap];exact bz _
theorem G2{q:Y SI}(h:((q.map (·.1)).map (·.no)).Nodup)(hb:nj (q.map (·.1)) ps=aQ):q.map (lh (od (q.map (·.1)) ps))=q:=by
 have h1:=wO q ps;rw[Wb h hb,dK]at h1;have h2:=List.map_inj_left.1 h1;conv=>rhs;rw[<-List.map_id q]
 refine cY λx hx=>?_;have h3:=h2 x hx;exact Prod.ext h3 U
theorem RJ(q0:Y SI)(hn:q0.length=n)(hs:n<=1000000000000)(j7:((q0.map (·.1)).map (·.no)).Nodup)(hf:jF (q0.map (·.1))<=1000000000):
 TR be GG 177 #[.slice a n c] [dp (cy GR) 1 a q0,dZ (q0.map uh),Bh q0] (dC λv B=>v=.tuple #[]/\∃q:Y SI,q.map (·.1)=jO (q0.map (·.1))/\B=[dZ (q.map uh),Bh q,dp (cy GR) 1 a q]):=by
 refine dH U λb O hb hG=>xS ?_
 refine X.loop (ι:={q:Y SI // q.length=n/\((q.map (·.1)).map (·.no)).Nodup/\jF (q.map (·.1))<=1000000000/\jO (q.map (·.1))=jO (q0.map (·.1))}) (λq=>([(0,.slice a n c)],[dp (cy GR) 1 a q.1,dZ (q.1.map uh),Bh q.1])) (λq=>GY (q.1.map (·.1))) ⟨q0,hn,j7,hf,U⟩ (Sub.of U) bA ?_
 rintro⟨q,hqn,EI,hqf,hqs⟩ ih
 dsimp only at hqn EI hqf hqs ih ⊢
 have hts:=sk (q.map (·.1))
 have Vl:∀x∈q,x.1.data.length<=1000000000/\x.1.gw.length<=1000000000:=by
  intro x hx
  have:=GZ (cu.2 ⟨x,hx,U⟩:x.1∈q.map (·.1))
  omega
 have BR:=yi (q.map (·.1))
 have hfk:=RH (q.map (·.1))
 refine aS3 q λtt=>xS ?_
 refine cM hG (Oh a n c q hqn hs Vl (by omega)) U U U eC ?_
 rintro v B ⟨K,KM,rfl,rfl⟩
 refine xD ?_
 refine cM hG (CK GG K (jb (q.map (·.1))) (by omega)) U U U eC ?_
 rintro v B ⟨a6,c6,rfl,rfl⟩
 dsimp only[bh,bk,bj]
 have N2:=zF (jb (q.map (·.1)))
 have Es:o7 (q.map (·.1))=if nj (q.map (·.1)) (jb (q.map (·.1))).kZ=aP then aN (oZ (q.map (·.1)) (jb (q.map (·.1))).kZ)
  else if nj (q.map (·.1)) (yj (q.map (·.1)))=aP then aN (oZ (q.map (·.1)) (yj (q.map (·.1))))else aO:=U
 have again:∀ps,nj (q.map (·.1)) ps=aP->o7 (q.map (·.1))=aN (oZ (q.map (·.1)) ps)->
  (q.map (lh (od (q.map (·.1)) ps))).length=n/\(((q.map (lh (od (q.map (·.1)) ps))).map (·.1)).map (·.no)).Nodup/\jF ((q.map (lh (od (q.map (·.1)) ps))).map (·.1))<=1000000000/\jO ((q.map (lh (od (q.map (·.1)) ps))).map (·.1))=jO (q0.map (·.1)):=by
  intro ps _ h2
  obtain⟨_,h4⟩:=rz EI h2
  refine⟨by rw[bF];exact hqn,?_,?_,?_⟩
  ·rw[wO,Bj h4];exact EI
  ·rw[wO,wP h4];exact hqf
  ·rw[wO,<-Ls EI h2];exact hqs
 have less:∀ps,nj (q.map (·.1)) ps=aP->GY ((q.map (lh (od (q.map (·.1)) ps))).map (·.1))<GY (q.map (·.1)):=by
  intro ps h1
  rw[wO];exact JD EI h1
 generalize hrv:(jb (q.map (·.1))).kZ=ps at*
 refine dR a6 Place.cs ps U U (λ_=>rfl) λ_=>?_
 refine xO (Ol GG a n c q hqn hs Vl a6 _ c6 ps U (by omega)) ?_
 refine xB ?_ ?_<;>intro h
 ·rw[ao h]at Es
  refine aS4 q (q.map (lh (od (q.map (·.1)) ps))) (G1 _ q) ?_
  refine PX a q (q.map (lh (od (q.map (·.1)) ps))) (G0 _ q) (xS ?_)
  exact X.W (ih ⟨_,again ps h Es⟩ (less ps h))
 have h:nj (q.map (·.1)) ps=aQ:=by simpa using h
 rw[G2 EI h]
 rw[aj (by simp[h])]at Es
 refine xQ (GV K (jb (q.map (·.1))) a n c q hqn hs (λx hx=>⟨tt x hx,Vl x hx⟩) (by omega)) ?_
 have hds:=ry (q.map (·.1)) (jb (q.map (·.1))) 1000000000 (by omega)
 have XB:yj (q.map (·.1))=o0 (nR (q.map (·.1)) (jb (q.map (·.1)))) (sortStr ((sj (q.map (·.1))).map (·.1))):=U
 generalize nR (q.map (·.1)) (jb (q.map (·.1)))=d at*
 generalize sj (q.map (·.1))=KL at*
 refine xS ?_
 refine X.dE (fh 153 3 _) (xS ?_)
 refine cM hG (YX GG KM) U U U bS.es ?_
 rintro v B ⟨p,rfl,rfl⟩
 refine xD ?_
 refine hU [bx p 286 [.map (aN KM)],mp bn KM KL] ?_
 refine cM hG (r6 GG 381 [bu p] _ _ _ (YY GG p KM KL) (λpre ⟨post,qb⟩=>?_) (λys qb=>?_)) U U U eC ?_
 ·have:=qb.length_eq
  simp at this;omega
 ·have:=qb.length_eq
  simp at this;omega
 rintro v B ⟨ys,AD,ka,kc,rfl,rfl⟩
 have xy:sortStr ys=sortStr (KL.map (·.1)):=pI AD
 rw[xy]
 dsimp only[bh,bk,bj]
 have PF:(sortStr (KL.map (·.1))).length<=1000000000:=by rw[kf,bF];omega
 generalize sortStr (KL.map (·.1))=ks at*
 refine dR ka (λk:Bs=>[bn k]) ks U U (λ_=>rfl) λ_=>xS ?_
 refine fR [0,2,23] [1,4,1] (ι:={z:ab×ah aX×ab // z.1<=ks.length}) (λz q_=>(4,.slice z.1.2.1 (o0 d (ks.take z.1.1)).length z.1.2.2)::(24,bR ks.length)::(25,bR z.1.1)::q_) (λz q_=>own 153 3 z.1.2.1 (o0 d (ks.take z.1.1)).length z.1.2.2 ((o0 d (ks.take z.1.1)).flatMap Place.cs)::q_) (λz=>ks.length - z.1.1) ⟨(0,aO,0),bp _⟩ ?_
 rintro⟨⟨i,a2,c2⟩,hi⟩ rb
 dsimp only at hi rb ⊢
 have vF:=Oq d ks i
 refine xB ?_ ?_<;>intro h1
 ·have hi:i<ks.length:=by simp at h1;omega
  have PI:=Lt d ks i hi
  generalize o0 d (ks.take i)=Z at*
  refine xS ?_
  refine dJ U U U U U hi U λbl o=>?_
  generalize ks[i]=k at*
  refine xQ (T1 GG K d k hds) ?_
  generalize d.last k=g at*
  refine xA ?_
  intro b7
  refine yT 37 (g.2=0) (¬g.2=0) ?_ ?_<;>intro h2
  ·refine yB (g.1.open_=aQ) (¬g.1.open_=aQ) ?_ ?_<;>intro h3
   ·rw[ao ⟨h2,h3⟩]at PI
    refine xZ ?_
    intro b9
    refine fH (g.1.place) U U U U (by first|rfl|assumption) rfl (by rfl) (by rfl) (by rfl) (by rfl) (by rfl) (by omega) λa8 c8=>xS ?_
    refine X.less (rb ⟨(i+1,a8,c8),by dsimp only;omega⟩ (by dsimp only;omega)) ?_ ?_
    ·dsimp only;rw[PI]
     exact(s6_ U U U U U (dI U (by simp[bR])))
    ·dsimp only;rw[PI];exact bA
   ·rw[aj (λh=>h3 h.2)]at PI
    refine xS ?_
    refine X.less (rb ⟨(i+1,a2,c2),by dsimp only;omega⟩ (by dsimp only;omega)) ?_ ?_
    ·dsimp only;rw[PI]
     exact(s6_ U U U U U (dI U (by simp[bR])))
    ·dsimp only;rw[PI];exact bA
  ·rw[aj (λh=>h2 h.1)]at PI
   refine xS ?_
   refine X.less (rb ⟨(i+1,a2,c2),by dsimp only;omega⟩ (by dsimp only;omega)) ?_ ?_
   ·dsimp only;rw[PI]
    exact(s6_ U U U U U (dI U (by simp[bR])))
   ·dsimp only;rw[PI];exact bA
 have gj:i=ks.length:=by simp at h1;omega
 subst gj
 rw[bV]at vF ⊢
 rw[<-XB]at vF ⊢
 clear XB rb
 generalize yj (q.map (·.1))=ps2 at*
 refine dR a2 Place.cs ps2 U U (λ_=>rfl) λ_=>?_
 refine xO (Ol GG a n c q hqn hs Vl a2 _ c2 ps2 U (by omega)) ?_
 refine yB (nj (q.map (·.1)) ps2=aQ) (nj (q.map (·.1)) ps2=aP) ?_ ?_<;>intro h2
 ·rw[aj (by simp[h2])]at Es
  rw[G2 EI h2]
  refine xS ?_
  exact cT hb (.tmps U) ⟨U,q,by rw[<-hqs,Lr Es],U⟩
 ·rw[ao h2]at Es
  refine aS4 q (q.map (lh (od (q.map (·.1)) ps2))) (G1 _ q) ?_
  refine PX a q (q.map (lh (od (q.map (·.1)) ps2))) (G0 _ q) (xS ?_)
  exact X.W (ih ⟨_,again ps2 h2 Es⟩ (less ps2 h2))
section
variable {I:Mk->Prop}(hI:∀(m:Mk) (s:fY) (m':Mk),I m->m.do s=.ok m'->I m')(hc:∀(m:Mk) (a:ab) (t:az) (f j:ab),I m->I {m with iH:=a,top:=t,cG:=f,dP:=j})
include hI in
theorem uz{m m':Mk}{nm d:Bs}(h:I m)(e:m.ahead nm d=.ok m'):I m':=by
 grind [Mk.ahead]
include hI in
theorem L2{m:Mk}{j:Bs}{z:Mk×Bs}(h:I m)(e:m.yE j=.ok z):I z.1:=by
 unfold Mk.yE at e;split at e
 ·cases e
 ·rename_i m1 h1;cases e;exact uz hI h h1
include hI in
theorem Mb{m:Mk}{nm b:Bs}{z:Mk×ae}(h:I m)(e:m.hint nm b=.ok z):I z.1:=by
 unfold Mk.hint at e;split at e
 ·split at e
  ·grind
  ·dsimp only at e
   split at e
   ·exact bd5
   grind
 ·split at e
  ·grind
  ·exact bd5
include hI hc in
theorem Kc{m m':Mk}{f:ca}(h:I m)(e:m.clean f=.ok m'):I m':=by
 have h1:∀m1,m.pK f=.ok m1->I m1:=by
  intro m1 e1
  unfold Mk.pK at e1
  dsimp only at e1
  split at e1
  ·split at e1
   ·cases e1
   ·rename_i z hz
    have HX:=L2 hI (hc m m.iH m.top _ _ h) hz
    split at e1
    ·grind
    ·exact uz hI HX e1
  grind
 unfold Mk.clean at e;split at e
 ·cases e
 ·rename_i m1 e1;split at e
  ·cases e
  ·rename_i z hz;cases e;exact hc _ _ _ _ _ (Mb hI (h1 _ e1) hz)
theorem uZ{α:Type}{f:Mk->α->aB ae Mk}(hf:∀m x m',I m->f m x=.ok m'->I m'):∀(l:Y α) (m m':Mk),I m->mj f l m=.ok m'->I m'
 |[],m,m',h,e=>by cases e;exact h
 |x::r,m,m',h,e=>by
  unfold mj at e;split at e
  ·cases e
  ·rename_i m1 h1;exact uZ hf r m1 m' (hf _ _ _ h h1) e
include hI hc in
theorem RO{l:Y ca}{m:Mk}(e:gV l cap ts=.ok m)(h0:mY l=aP->(cq l:ae)<=cap->cap<=4194304->I ⟨l,cap,[],0,0,0,0,cq l⟩):I m:=by
 unfold gV at e;split at e
 ·cases e
 ·rename_i h;have h1:mY l=aP:=by
   grind
  have h2:(cq l:ae)<=cap:=bw;have h3:cap<=4194304:=bw;split at e
  ·cases e
  ·rename_i m1 e1;have i1:=uZ (λm x m' h e=>hI m _ m' h e) _ _ _ (h0 h1 h2 h3) e1;split at e
   ·cases e
   ·rename_i m2 e2;have i2:=uZ (f:=s8 ts) (λm x m' h e=>by
     unfold s8 at e
     split at e
     ·grind
     ·split at e
      ·cases e
      ·rename_i m3 e3;cases e;exact hc _ _ _ _ _ (Kc hI hc h e3)) _ _ _ i1 e2
    exact uZ (f:=sf l) (λm x m' h e=>by
     grind [sf]) _ _ _ i2 e
end
theorem zH{l:Y ca}(h:gV l cap ts≠.error 110):mY l=aP/\(cq l:ae)<=cap/\cap<=4194304:=by
 grind [gV]
theorem G3:∀(ss:Y fY) (l:Y ca) (s:fY),wJ l (ss++[s])=(wJ l ss).bind λl'=>ke l' s
 |[],l,s=>by
  show(match ke l s with|none=>aO|some l'=>aN l')=ke l s
  grind
 |x::r,l,s=>by
  show(match ke l x with|none=>aO|some l'=>wJ l' (r++[s]))=(match ke l x with|none=>aO|some l'=>wJ l' r).bind _;cases ke l x with
  |none=>rfl
  |some l'=>exact G3 r l' s
theorem G4{l:Y ca}{cap:ae}{ts:Y av}{m:Mk}(e:gV l cap ts=.ok m):wJ l m.steps=aN m.now/\(cq m.now:ae)<=m.cap/\m.cap=cap:=by
 refine RO (I:=λm=>wJ l m.steps=aN m.now/\(cq m.now:ae)<=m.cap/\m.cap=cap) ?_ (λm a t f j h=>h) e λ_ h2 _=>⟨U,h2,U⟩
 grind [Mk.do,G3]
theorem Bn{l:Y ca}(h:mY l=aP):(∀f∈l,eO f.name=aP)/\(l.map (·.name)).Nodup:=by
 grind [mY]
theorem Ot{c:ab}{n:av}(h:wG name c=aN n):jk c n=name:=by
 grind [wG]
theorem DJ(h:(cR name).1=1):jk 1 (cR name).2=name:=by
 grind [cR,Ot]
theorem zI{l:Y ca}{f:ca}{s:Src}(h:qY l f=aN s):(cR f.name).1=1/\s.no=(cR f.name).2/\s.data=f.data/\s.gw.length<=f.data.length:=by
 unfold qY at h;split at h;all_goals grind [iF,jD,nt]
theorem T6{l:Y ca}(h:(l.map (·.name)).Nodup):((uY l).map (·.no)).Nodup:=by
 have key:∀(L l:Y ca),(l.map (·.name)).Nodup->((l.filterMap (qY L)).map (·.no)).Nodup/\∀s∈l.filterMap (qY L),∃f∈l,qY L f=aN s:=by
  grind [zI,DJ]
 exact(key l l h).1
theorem Wd(l:Y ca):jF (uY l)<=2*cq l:=by
 have key:∀(L l:Y ca),jF (l.filterMap (qY L))<=2*cq l:=by
  intro L l;induction l with
  |nil=>exact bp _
  |cons f r ih=>
   have h1:cq (f::r)=f.data.length+cq r:=NG;rw[h1,fZ];split
   ·omega
   ·rename_i s hs
    have a1:=zI hs
    grind [jF]
 exact key l l
def thenS(f:ca)(s:Src):Src:=if(cR f.name).1=1/\s.no=(cR f.name).2 then {s with data:=f.data}else s
def sr(l:Y Src)(fs:Y ca):Y Src:=fs.foldl (λl f=>l.map (thenS f)) l
def vw(l:Y Src):Y av:=(l.filter (·.wN)).map (·.no)
theorem RP(fs:Y ca)(i:ab)(h:i<fs.length):sr l (fs.take (i+1))=(sr l (fs.take i)).map (thenS fs[i]):=by
 grind [sr,cg]
theorem ah0(f:ca)(s:Src):(thenS f s).no=s.no:=by grind [thenS]
theorem G5(f:ca)(s:Src):(thenS f s).gw=s.gw:=by grind [thenS]
theorem Bo(f:ca):(l.map (thenS f)).map (·.no)=l.map (·.no):=by
 grind [cY,ah0]
theorem G6(f:ca):∀(l:Y Src),(l.map (·.no)).Nodup->jF (l.map (thenS f))<=jF l+f.data.length
 |[],_=>bp _
 |s::r,hn=>by
  have e:∀(s:Src) (r:Y Src),jF (s::r)=s.data.length+s.gw.length+jF r:=by grind [jF]
  rw[bN,gy]at hn
  have ih:=G6 f r hn.2
  rw[bN,e,e,G5]
  by_cases h:(cR f.name).1=1/\s.no=(cR f.name).2
  ·have h1:(thenS f s).data=f.data:=by grind [thenS]
   have h2:r.map (thenS f)=r:=by
    conv=>rhs;rw[<-List.map_id r]
    grind [cY,thenS]
   grind
  grind [thenS]
theorem G7:∀(fs:Y ca) (l:Y Src),(l.map (·.no)).Nodup->(sr l fs).map (·.no)=l.map (·.no)/\jF (sr l fs)<=jF l+cq fs
 |[],l,_=>⟨U,by show jF l<=_;omega⟩
 |f::r,l,hn=>by
  have h1:=G7 r (l.map (thenS f)) (by rw[Bo];exact hn);have h2:=G6 f l hn;have h3:cq (f::r)=f.data.length+cq r:=NG;have h4:sr l (f::r)=sr (l.map (thenS f)) r:=U;rw[h4,h3];exact⟨h1.1.trans (Bo l f),by have:=h1.2;omega⟩
def DK(l:Y Src):fu:=nR l (jb l)
def JE(r:aB ae Mk):ai:=match r with
 |.error e=>e==110
 |.ok _=>aQ
def qR(l:Y ca)(cap:ae):aB ae (Mk×fu):=
 if JE (gV l cap [])=aP then .error 110 else
 match gV l cap (vw (jO (uY l)))with
 |.error e=>.error e
 |.ok m=>.ok (m,DK (sr (jO (uY l)) (qX m.now)))
theorem Ou{r:aB ae Mk}(h:JE r≠aP):r≠.error 110:=by
 rintro rfl;exact h U
def CN(f:SI->SI)(q:Y SI)(i:ab):Y SI:=(q.take i).map f++q.drop i
theorem Ov(i:ab):(CN f q i).length=q.length:=by
 unfold CN;rw[bK,bF,<-bK,dV]
theorem ah1(i:ab)(h:i<q.length):(CN f q i).set i (f q[i])=CN f q (i+1):=by
 unfold CN;have h1:((q.take i).map f).length=i:=Wa;exact bc5
theorem ah2(i:ab)(h:i<q.length):(CN f q i)[i]'(by rw[Ov];exact h)=q[i]:=by
 have h1:((q.take i).map f).length=i:=Wa;have h2:(CN f q i)[i]?=aN q[i]:=by
  unfold CN;exact bc6
 exact(List.getElem?_eq_some_iff.1 h2).2
theorem ah3:CN f q q.length=q.map f:=by unfold CN;rw[bV,List.drop_length,bj]
abbrev su(x:WB ca)(y:SI):SI:=if(cR x.1.name).1=1/\y.1.no=(cR x.1.name).2 then(⟨y.1.no,x.1.data,y.1.wN,y.1.gw⟩,y.2.1,x.2,y.2.2.2)else y
theorem aJ0:(su x y).1=thenS x.1 y.1:=by unfold su thenS;split<;>rfl
theorem aJ1:(su x y).2.1=y.2.1:=by unfold su;split<;>rfl
theorem We:(q.map (su x)).map (·.1)=(q.map (·.1)).map (thenS x.1):=by
 rw[dK,dK];exact cY λy _=>aJ0 x y
theorem JF:(q.map (su x)).map (λy=>y.2.1)=q.map (λy=>y.2.1):=by
 rw[dK];exact cY λy _=>aJ1 x y
section
variable {b:bc}{O:de}{k:Kt}{E:Env}{H:Y bG}{R:aZ->Y bG->Prop}{cc:ah (ar aW×Y aW)}
theorem bC6(q7:Y (WB ca))(x:WB ca)(hx:x∈q7)[hf:FP H (Bh q) F][hr:TC H ca.data q7](h:X be b O cc k E (Bh (q.map (su x))::H) R):X be b O cc k E H R:=by
 obtain⟨F2,hF2⟩:=hr.out
 refine X.dE ?_ h
 intro r o hh
 obtain⟨_,_,_,_,_,l6,_⟩:=hf.out r o hh
 obtain⟨_,_,_,_,_,vo,_⟩:=hF2 r o hh
 refine⟨gI,o,ef _,dQ _,.refl _,λr' pg y hy=>?_,hh⟩
 obtain⟨z,hz,rfl⟩:=cu.1 hy
 have h1:=l6 r' pg z hz
 have h2:=vo r' pg x hx
 unfold su
 split
 ·exact⟨h2,h1.2⟩
 ·exact h1
end
theorem RQ(h:i<l.length):vw (l.take (i+1))=if l[i].wN=aP then vw (l.take i)++[l[i].no]else vw (l.take i):=by
 unfold vw;rw[cg,bX h,List.filter_append,dx];show _++List.map _ (List.filter _ [l[i]])=_;rw[List.filter_cons];split
 ·rfl
 ·simp
theorem Wf:(vw (l.take i)).length<=l.length:=by
 unfold vw;rw[bF];refine bo (eF _ _) ?_;rw[dG];omega
theorem ah4(cap:ae)(a:ah aX)(n c:ab)(q:Y (WB ca))(hn:q.length=n)(hs:n<=60000000000)(h0:a=aO->n=0/\c=0)(hu:cq (q.map (·.1))<=1000000000000)(ta:ah aX)(tn tc:ab)(ts:Y av)(htn:ts.length=tn)(hts:tn<=1000000000000):
 TR be GG 121 #[.slice a n c,.int .i64 cap,.slice ta tn tc] [dp (cy bY) 2 a q,eQ ca.data q,dp RU 1 ta ts] (dC λv B=>∃x1 n1 c1 x2 n2 c2,∃x3 x4 x5 x6 e:ae,v=.tuple #[.agg #[.slice x1 n1 c1,.slice x2 n2 c2,.int .u64 x3,.int .i64 x4,.int .i64 x5,.int .i64 x6],.int .i64 e]/\(e=110↔JE (gV (q.map (·.1)) cap ts)=aP)/\B=[]):=by
 refine(Li cap a n c q hn hs h0 hu ta tn tc ts htn hts).eY (bS.refl _) ?_
 rintro e B hB
 cases e with
 |panicked ch=>exact hB.elim
 |outgrown=>exact hB.elim
 |returned v=>
  refine⟨[],?_,bS.nil _⟩;have hB:a'4 (gV (q.map (·.1)) cap ts) v B:=hB;show ∃x1 n1 c1 x2 n2 c2,∃x3 x4 x5 x6 e:ae,_;cases hp:gV (q.map (·.1)) cap ts with
  |error e=>
   rw[hp]at hB;obtain⟨rfl,rfl⟩:=hB;exact⟨_,_,_,_,_,_,_,_,_,_,e,U,by simp[JE],U⟩
  |ok m=>
   rw[hp]at hB;obtain⟨ss,sa,sc,fa,fc,fx,ir,rfl,rfl⟩:=hB;exact⟨_,_,_,_,_,_,_,_,_,_,0,U,by simp[JE],U⟩
def bW8(r:aB ae (Mk×fu))(v:aR)(B:Y bG):Prop:=match r with
 |.error e=>v=.tuple #[.agg z183.toArray,.pointer aO,.int .i64 e]/\B=[]
 |.ok z=>∃ss:Y (WB fY),∃sa sc fa fc K,ss.map (·.1)=z.1.steps/\v=.tuple #[.agg #[.slice sa ss.length sc,.slice fa z.1.iH fc,.int .u64 z.2.top,.int .i64 z.1.cG,.int .i64 z.1.dP,.int .i64 z.1.lN],bu K,.int .i64 0]/\B=[jc K z.2,dp (cy eG) 5 sa ss,eQ fY.data ss]
theorem Wg(cap:ae)(a:ah aX)(n c:ab)(q:Y (WB ca))(hn:q.length=n)(hs:n<=50000000000)(h0:a=aO->n=0/\c=0)(hu:cq (q.map (·.1))<=1000000000000):
 TR be GG 124 #[.slice a n c,.int .i64 cap] [dp (cy bY) 2 a q,eQ ca.data q] (dC (bW8 (qR (q.map (·.1)) cap))):=by
 subst hn
 refine bZ U λb O hb hG=>?_
 generalize cD:qR (q.map (·.1)) cap=res
 unfold qR at cD
 refine xA ?_
 intro b4
 refine ku av RU 1 ?_
 refine cM hG (ah4 cap a _ c q U (by omega) h0 hu aO 0 0 [] U (by decide)) U U U eC ?_
 rintro v B ⟨x1,n1,c1,x2,n2,c2,x3,x4,x5,x6,e0,rfl,he0,rfl⟩
 refine xD ?_
 refine xA ?_
 intro b7
 refine xB ?_ ?_<;>intro h1
 ·have h1:e0=110:=by simpa using h1
  rw[ao (he0.1 h1)]at cD
  subst h1
  subst cD
  refine xS ?_
  exact cT hb (.jf U (by rfl) (.tmp U (.tmp U .nil))) ⟨U,U⟩
 have h1:¬JE (gV (q.map (·.1)) cap [])=aP:=by intro h;have:=he0.2 h;simp[this]at h1
 rw[aj h1]at cD
 have sK:=zH (Ou h1)
 obtain⟨eI,j7⟩:=Bn sK.1
 clear he0 h1
 have ZO:cq (q.map (·.1))<=4194304:=by omega
 have ae2:∀x∈q,x.1.name.length<=1000000/\x.1.data.length<=1000000000:=by
  intro x hx
  obtain⟨i,hi,rfl⟩:=List.mem_iff_getElem.1 hx
  have h1:=qA (q.map (·.1)) i (by simpa using hi)
  have h2:=ub (q.map (·.1)) (i+1)
  rw[gG]at h1
  have h3:=kC (eI _ (cu.2 ⟨_,hx,U⟩))
  exact⟨by omega,by omega⟩
 refine xS ?_
 refine cM hG (RF a _ c q U (by omega) ae2) U U U eC ?_
 rintro v B ⟨a9,c9,q9,hq9,rfl,rfl⟩
 dsimp only[bh,bk,bj]
 have xy:=T6 j7
 have hsf:=Wd (q.map (·.1))
 have qN:(uY (q.map (·.1))).length<=q.length:=by
  have:=List.length_filterMap_le (qY (q.map (·.1))) (q.map (·.1))
  rw[bF]at this;exact this
 rw[<-hq9]at xy hsf qN cD
 rw[bF]at qN
 refine dR a9 GR q9 U U (λ_=>rfl) λ_=>xS ?_
 refine cM hG (RJ a9 _ c9 q9 U (by omega) xy (by omega)) U U U eC ?_
 rintro v B ⟨rfl,q1,Xx,rfl⟩
 dsimp only[bh,bk,bj]
 have sS:=Bm xy
 rw[<-Xx]at sS cD
 have D7:q1.length=q9.length:=by have:=ag9 sS;simpa using this
 have hsn1:((q1.map (·.1)).map (·.no)).Nodup:=by rw[Bj sS];exact xy
 have hsf1:jF (q1.map (·.1))<=2*cq (q.map (·.1)):=by rw[wP sS];exact hsf
 rw[<-D7]at qN ⊢
 clear D7 sS xy hsf Xx hq9
 refine xS ?_
 refine X.dE (fh 139 1 _) ?_
 refine X.loop (ι:={z:ab×ah aX×ab // z.1<=q1.length}) (λz=>([(0,.slice a q.length c),(1,.int .i64 cap),(4,bu b4),(9,.slice a9 q1.length c9),(10,.slice z.1.2.1 (vw ((q1.map (·.1)).take z.1.1)).length z.1.2.2),(38,.slice a9 q1.length c9),(39,bR q1.length),(40,bR z.1.1)],[own 139 1 z.1.2.1 (vw ((q1.map (·.1)).take z.1.1)).length z.1.2.2 ((vw ((q1.map (·.1)).take z.1.1)).flatMap λu:av=>[.int .u32 u.toNat]),dZ (q1.map uh),Bh q1,dp (cy GR) 1 a9 q1,bx b4 183 z183,dp (cy bY) 2 a q,eQ ca.data q])) (λz=>q1.length - z.1.1) ⟨(0,aO,0),bp _⟩ (Sub.of U) (show bS _ [own 139 1 aO 0 0 [],dZ (q1.map uh),Bh q1,dp (cy GR) 1 a9 q1,bx b4 183 z183,dp (cy bY) 2 a q,eQ ca.data q]from bA) ?_
 rintro⟨⟨i,a2,c2⟩,hi⟩ ih
 dsimp only at hi ih ⊢
 have vF:=Wf (q1.map (·.1)) i
 rw[bF]at vF
 refine xB ?_ ?_<;>intro h1
 ·have hi:i<q1.length:=by simp at h1;omega
  have PI:=RQ (q1.map (·.1)) i (by simpa using hi)
  rw[gG]at PI
  generalize vw ((q1.map (·.1)).take i)=Z at*
  refine xS ?_
  refine dJ U U U U U hi U λbl o=>xS ?_
  refine E1 q1 i hi ?_
  obtain⟨x,hxq⟩:∃x,x=q1[i]:=⟨_,U⟩
  have yF:q1.set i x=q1:=by rw[hxq,List.set_getElem_self]
  simp only[<-hxq]at PI ⊢
  obtain⟨⟨no,data,wN,gw⟩,xb,⟨xa,xc⟩,⟨ya,yc⟩⟩:=x
  dsimp only[SI.cs]at PI ⊢
  clear hxq
  refine xB ?_ ?_<;>intro h2
  ·have h2:wN=aP:=h2
   rw[ao h2]at PI
   refine xZ ?_
   intro b53
   refine fH (no) U U U U (by first|rfl|assumption) rfl (by rfl) (by rfl) (by rfl) (by rfl) (by rfl) (by omega) λa54 c54=>xS ?_
   refine Am q1 i hi (⟨no,data,wN,gw⟩,xb,(xa,xc),(ya,yc)) ?_
   rw[yF]
   refine X.less (ih ⟨(i+1,a54,c54),by dsimp only;omega⟩ (by dsimp only;omega)) ?_ ?_
   ·dsimp only;rw[PI]
    exact(s8_ U U U U U U U (dI U (by simp[bR])))
   ·dsimp only;rw[PI];exact bA
  ·have h2:¬wN=aP:=by simpa using h2
   rw[aj h2]at PI
   refine xS ?_
   refine Am q1 i hi (⟨no,data,wN,gw⟩,xb,(xa,xc),(ya,yc)) ?_
   rw[yF]
   refine X.less (ih ⟨(i+1,a2,c2),by dsimp only;omega⟩ (by dsimp only;omega)) ?_ ?_
   ·dsimp only;rw[PI]
    exact(s8_ U U U U U U U (dI U (by simp[bR])))
   ·dsimp only;rw[PI];exact bA
 have gj:i=q1.length:=by simp at h1;omega
 subst gj
 rw[bI (by simp)]at vF ⊢
 clear ih h1 hi
 generalize vw (q1.map (·.1))=ts at*
 refine dR a2 (λu:av=>[.int .u32 u.toNat]) ts U U (λ_=>rfl) λ_=>xS ?_
 refine cM hG (Li cap a _ c q U (by omega) h0 (by omega) a2 _ c2 ts U (by omega)) U U U eC ?_
 intro v B hD
 have Qv:=@yg (q.map (·.1)) cap ts
 have hlo:=@CG (q.map (·.1)) cap ts
 have T2:=@uV (q.map (·.1)) cap ts
 have hru:=@G4 (q.map (·.1)) cap ts
 cases hp:gV (q.map (·.1)) cap ts with
 |error e=>
  rw[hp]at hD cD
  obtain⟨rfl,rfl⟩:=hD
  subst cD
  have h0:=T2 hp
  refine xD ?_
  refine xA ?_
  intro Ic
  refine bD 64 aP U (by simp[h0]) (xS ?_)
  exact cT hb (.jf U (by rfl) (.tmp U (.tmp U .nil))) ⟨U,U⟩
 |ok m=>
  rw[hp]at hD cD
  dsimp only at cD
  have Lh:=hlo hp
  have Ik:=Qv hp
  obtain⟨Lj,hr2,hr3⟩:=hru hp
  clear Qv hlo T2 hru hp
  obtain⟨ss,sa,sc,fa,fc,fx,ir,rfl,rfl⟩:=hD
  refine xD ?_
  refine xA ?_
  intro Ic
  refine dR sa eG ss U U (λ_=>rfl) λ_=>?_
  have hsl2:ss.length<=12*q.length:=by
   have:=Lh.steps
   rw[<-ir,bF,bF]at this
   exact this
  have hpa:rv (q.map (·.1)) (ss.map (·.1))=aN (qX m.now):=by
   unfold rv
   rw[ao sK.1,ir,Lj];rfl
  refine cM hG (Js GG a _ c q U sa _ sc ss U h0 (by omega) (by omega) (λl hl=>by rw[hpa]at hl;cases hl;rw[oX];omega)) U U U eC ?_
  rw[hpa]
  rintro v B ⟨a7,c7,q7,hq7,rfl,rfl⟩
  have hu7:cq (q7.map (·.1))<=4194304:=by rw[hq7,oX];omega
  have hq7l:q7.length<=1000000000000:=by
   have h1:=aH eP hq7
   rw[bF,(zu m.now).length_eq]at h1
   have:=Lh.now
   rw[bF]at this
   omega
  have hq7n:∀x∈q7,x.1.name.length<=1000:=by
   intro x hx
   have h1:x.1∈qX m.now:=by rw[<-hq7];exact cu.2 ⟨x,hx,U⟩
   exact kC (Lh.names _ ((zu m.now).mem_iff.1 h1))
  rw[<-hq7]at cD
  clear hpa hq7 Lj hr2
  refine xD ?_
  refine dR a7 bY q7 U U (λ_=>rfl) λ_=>xS ?_
  refine X.loop (ι:={z:ab×Y SI // z.1<=q7.length/\z.2.map (·.1)=sr (q1.map (·.1)) ((q7.map (·.1)).take z.1)/\z.2.map (λx=>x.2.1)=q1.map (λx=>x.2.1)/\z.2.length=q1.length}) (λz=>([(4,bu b4),(9,.slice a9 q1.length c9),(13,bu Ic),(78,.slice a7 q7.length c7),(79,bR q7.length),(80,bR z.1.1)],[dZ (z.1.2.map uh),Bh z.1.2,dp (cy GR) 1 a9 z.1.2,bx b4 183 z183,bx Ic 183 [.slice sa ss.length sc,.slice fa m.iH fc,.int .u64 m.top.toNat,.int .i64 m.cG,.int .i64 m.dP,.int .i64 m.lN],dp (cy bY) 2 a7 q7,eQ ca.data q7,dp (cy eG) 5 sa ss,eQ fY.data ss])) (λz=>q7.length - z.1.1) ⟨(0,q1),bp _,U,U,U⟩ (Sub.of U) bA ?_
  rintro⟨⟨i,Q⟩,hi,hQ,hQp,hQl⟩ ih
  dsimp only at hi hQ hQp hQl ih ⊢
  refine xB ?_ ?_<;>intro h1
  ·have hi:i<q7.length:=by simp at h1;omega
   have jv:=bE hi
   have xz:=RP (q1.map (·.1)) (q7.map (·.1)) i (by simpa using hi)
   rw[<-hQ,gG,<-We]at xz
   have hxn:=hq7n _ jv
   refine bC6 Q q7 q7[i] jv (xS ?_)
   refine dJ U U U U U hi U λbl o=>?_
   generalize q7[i]=x at*
   refine xS ?_
   refine eT U U U U  ?_
   refine xA ?_
   intro b17
   refine xJ (n4 x.1.name (by omega)) ?_
   refine fR [4,9,13,17,18,19,78,79,80,90] [1,3,2] (ι:={j:ab // j<=Q.length}) (λj q_=>(91,bR q1.length)::(92,bR j.1)::q_) (λj q_=>dZ ((CN (su x) Q j.1).map uh)::q_) (λj=>Q.length - j.1) ⟨0,bp _⟩ ?_
   rintro⟨j,hj⟩ rb
   dsimp only at hj rb ⊢
   refine xB ?_ ?_<;>intro h2
   ·have hj:j<Q.length:=by simp at h2;omega
    obtain⟨y,Ow⟩:∃y,y=Q[j]:=⟨_,U⟩
    obtain⟨Z,hZ⟩:∃Z,Z=CN (su x) Q j:=⟨_,U⟩
    have hjZ:j<Z.length:=by rw[hZ,Ov];exact hj
    have hbg:Z[j]=y:=by subst hZ;rw[Ow];exact ah2 _ Q j hj
    have hbs:Z.set j (su x y)=CN (su x) Q (j+1):=by rw[hZ,Ow];exact ah1 _ Q j hj
    rw[<-hZ]
    refine xS ?_
    refine dJ U U U U U hj hQl λY' o2=>?_
    rw[<-Ow]
    refine xS ?_
    refine E1 Z j hjZ ?_
    simp only[hbg]
    clear Ow hZ
    obtain⟨⟨no,data,wN,gw⟩,xb,⟨xa,xc⟩,⟨ya,yc⟩⟩:=y
    dsimp only[SI.cs,su]at hbs ⊢
    refine xT 98 ?_ ?_<;>intro h3
    ·have h3:(cR x.1.name).1=1:=by simp at h3;omega
     refine xB ?_ ?_<;>intro h4
     ·have h4:no=(cR x.1.name).2:=by
       apply fk.1
       simp at h4;omega
      rw[ao ⟨h3,h4⟩]at hbs
      refine xS ?_
      refine Am Z j hjZ (⟨no,x.1.data,wN,gw⟩,xb,x.2,(ya,yc)) ?_
      rw[hbs]
      exact X.W (rb ⟨j+1,by omega⟩ (by dsimp only;omega))
     ·have h4:¬no=(cR x.1.name).2:=by
       intro h;subst h;simp at h4
      rw[aj (λh=>h4 h.2)]at hbs
      refine xS ?_
      refine Am Z j hjZ (⟨no,data,wN,gw⟩,xb,(xa,xc),(ya,yc)) ?_
      rw[hbs]
      exact X.W (rb ⟨j+1,by omega⟩ (by dsimp only;omega))
    ·have h3:¬(cR x.1.name).1=1:=by
      intro h;simp[h]at h3
     rw[aj (λh=>h3 h.1)]at hbs
     refine xS ?_
     refine Am Z j hjZ (⟨no,data,wN,gw⟩,xb,(xa,xc),(ya,yc)) ?_
     rw[hbs]
     exact X.W (rb ⟨j+1,by omega⟩ (by dsimp only;omega))
   ·have PG:j=Q.length:=by simp at h2;omega
    subst PG
    rw[ah3]
    refine PX a9 Q (Q.map (su x)) (JF _ Q) (xS ?_)
    exact X.W (ih ⟨(i+1,Q.map (su x)),by dsimp only;omega,xz.symm,(JF x Q).trans hQp,by rw[bF];exact hQl⟩ (by dsimp only;omega))
  have gj:i=q7.length:=by simp at h1;omega
  subst gj
  rw[bI (by simp)]at hQ
  have Il:=G7 (q7.map (·.1)) (q1.map (·.1)) hsn1
  rw[<-hQ]at Il cD
  have htf:=Il.2
  have hts:=sk (Q.map (·.1))
  have Vl:∀x∈Q,x.1.data.length<=1000000000/\x.1.gw.length<=1000000000:=by
   intro x hx
   have:=GZ (cu.2 ⟨x,hx,U⟩:x.1∈Q.map (·.1))
   omega
  have BR:=yi (Q.map (·.1))
  refine aS3 Q λtt=>?_
  clear ih h1 hi hQ hQp Il
  rw[<-hQl]
  refine xS ?_
  refine cM hG (Oh a9 _ c9 Q U (by omega) Vl (by omega)) U U U eC ?_
  rintro v B ⟨K,KM,rfl,rfl⟩
  refine xD ?_
  refine xQ (GV K (jb (Q.map (·.1))) a9 _ c9 Q U (by omega) (λx hx=>⟨tt x hx,Vl x hx⟩) (by omega)) ?_
  have hds:=ry (Q.map (·.1)) (jb (Q.map (·.1))) 1000000000 (by omega)
  have kl:nR (Q.map (·.1)) (jb (Q.map (·.1)))=DK (Q.map (·.1)):=U
  rw[kl]at hds ⊢
  refine xO (af3 GG K (DK (Q.map (·.1))) hds) ?_
  subst cD
  exact cT hb (.jf U (by rfl) (.tmp U (.tmp U .nil))) ⟨ss,sa,sc,fa,fc,K,ir,U,U⟩
end
section
variable{α:Type}{i j:ab}(G:dA)(fc:ab)(cap:Y aR)(A:Y bG)
theorem Ox{l:Y ca}{cap:ae}{z:Mk×fu}(h:qR l cap=.ok z):∃ts,gV l cap ts=.ok z.1:=by
 grind [qR]
theorem G8{l:Y ca}{cap:ae}{e:ae}(h:qR l cap=.error e):e≠0:=by
 grind [qR,uV]
theorem JG(d:fu):d.top<2^64:=by
 unfold fu.top;induction d with
 |nil=>decide
 |cons x r ih=>
  rw[bN,List.foldr_cons];have:=(ng x.2).toNat_lt;omega
def zJ(s:cd):cd×aB ae Sal:=
 if s.down=aP then(s,.error 75)else
 match qR s.all s.cap with
 |.error e=>(s,.error e)
 |.ok z=>if(s.nO z.1.steps).2.2≠0 then((s.nO z.1.steps).1,.error (s.nO z.1.steps).2.2)else((s.nO z.1.steps).1,.ok ⟨z.2,gQ z.2.top,z.1.cG,z.1.dP⟩)
theorem Wh(D:ab)(s:cd)(hl:s.files.length<=50000000000):
 TR be GG 67 #[bu D] [cJ D s] (dC (af7 D (zJ s))):=by
 refine dH U λb O hb hG=>?_
 generalize cD:zJ s=res
 unfold zJ at cD
 refine qV D λeI=>?_
 have h2:=eI.le
 have h3:=eI.cap
 have Nf:=eI.yA
 have hu:=si eI
 have sF:=mH s
 refine xA ?_
 intro b3
 refine xH (Gu GG D s) ?_
 refine xB ?_ ?_<;>intro hd
 ·exact ba8
 have hd:s.down=aQ:=hd
 rw[aj (by simp[hd])]at cD
 refine xS ?_
 refine cP (kj GG D s bw) ?_
 rintro v B ⟨a,c,rfl,rfl⟩
 dsimp only[bh,bk,bj]
 refine pX a c (l:=s.all) λq hq hqc It=>?_
 refine xH (A4 GG D s) ?_
 rw[<-hq]at cD hu sF ⊢
 rw[bF]at sF ⊢
 refine xS ?_
 refine cP (Wg s.cap a _ c q U bw It bw) ?_
 intro v B hD
 have hlo:=@Ox (q.map (·.1)) s.cap
 have T2:=@G8 (q.map (·.1)) s.cap
 cases hp:qR (q.map (·.1)) s.cap with
 |error e=>
  rw[hp]at hD cD;obtain⟨rfl,rfl⟩:=hD;subst cD;have h0:=T2 hp;refine xD ?_;refine xA ?_;intro b5;refine bD 23 aP U V3 (xS ?_);exact bL2
 |ok z=>
  rw[hp]at hD cD;obtain⟨ts,hdp⟩:=hlo hp;have Lh:=CG hdp;have Ik:=yg hdp;have Il:=JG z.2;obtain⟨ss,sa,sc,fa,fc,K,ir,rfl,rfl⟩:=hD;dsimp only at cD;refine xD ?_;refine xA ?_;intro b5;have qN:ss.length<=1000000000000:=by
   have:=Lh.steps;rw[<-ir,bF,bF]at this;omega
  refine cP (Ll GG D s sa _ sc ss U qN (λx hx=>by
   have:=Ik.st x.1 (by rw[<-ir];exact cu.2 ⟨x,hx,U⟩);omega)) ?_
  rintro v B ⟨rfl,rfl⟩;rw[ir];generalize s.nO z.1.steps=y at*;obtain⟨s1,n1,e1⟩:=y;dsimp only at cD ⊢;refine xD ?_;refine xB ?_ ?_<;>intro he
  ·have he:e1≠0:=QO;exact ba9
  have he:¬e1≠0:=QO;rw[aj he]at cD;subst cD;have htn:(z.2.top:ae)=((gQ z.2.top).toNat:ab):=by rw[UInt64.toNat_ofNat'];omega
  refine xS ?_;refine fU 4 [1] ?_;refine xL [0,1,2,3] ?_;refine xS ?_;exact cT hb (.tmp U (.jf U cE (.tmp U .nil))) ⟨K,fa,z.1.iH,fc,by rw[<-htn];rfl,U⟩
structure o9 where
 jE:ca
 no:av
 sL:Y Rec
 jK:ai
deriving DecidableEq
abbrev px:=o9×(ah aX×ab)×(ah aX×ab)
abbrev px.cs(x:px):Y aR:=[bn x.1.jE.name,.slice x.2.1.1 x.1.jE.data.length x.2.1.2,.int .u32 x.1.no.toNat,.slice x.2.2.1 x.1.sL.length x.2.2.2,.bool x.1.jK]
theorem ah5[CF be fc](p:px->ai)(a:ah aX)(n c:ab)(xs:Y px)(hn:xs.length=n)(hs:n<=1099511627776)(hc:∀x∈xs,TR be G fc (([]:Y aR)++[iD (px.cs x).toArray]++cap).toArray [dZ A] (dC λv B=>v=.bool (p x)/\B=[dZ A])):
 TR be G 339 #[.slice a n c,.func (.func fc) #[] cap.toArray] [dp (cy px.cs) 5 a xs,dZ A] (dC λv B=>v=bR (dM p 0 xs)/\B=[dZ A]):=by
 refine bZ U λb O hb hG=>xS ?_
 refine fR [0,1] [] (ι:={i:ab // i<=n/\dM p 0 xs=dM p i (xs.drop i)}) (λi q_=>(7,bR n)::(8,bR i.1)::q_) (λi q_=>q_) (λi=>n - i.1) ⟨0,bp _,U⟩ ?_
 rintro⟨i,hi,hE⟩ ih
 dsimp only
 refine xB ?_ ?_<;>intro h
 ·have hi:i<xs.length:=bQ;refine xS ?_;refine dJ U U U U U hi hn λbl o=>?_;rw[ky _ xs i hi]at hE;have Fu:=hc xs[i] (bE hi);generalize xs[i]=x at*;refine xS ?_;refine eT U U U U (xS ?_);refine jd (fst:=[]) (us:=[iD (px.cs x).toArray]) (cap:=cap) hG Fu U U U U bS.es ?_;exact aE3
 ·exact aE4
theorem wQ{α:Type}(p:α->ai):∀(l:Y α) (k:ab),(dM p k l= -1/\l.filter (λx=> !p x)=l)\/∃j,∃(_:j<l.length),dM p k l=((k+j:ab):ae)/\(l.take (j+1)).filter (λx=> !p x)=l.take j
 |[],k=>.inl ⟨U,U⟩
 |x::r,k=>by
  unfold dM;cases hp:p x
  ·simp only[di,aI];rcases wQ p r (k+1)with⟨h1,h2⟩|⟨j,hj,h1,h2⟩;all_goals grind
  ·refine .inr ⟨0,by simp,by simp,?_⟩
   grind
structure Iv{α:Type}(p:α->ai)(xs:Y α)(i j:ab)(m:Y α):Prop where
 ij:i<j
 jn:j<=xs.length
 len:m.length=xs.length
 hd:m.take i=(xs.take j).filter λx=> !p x
 tl:m.drop j=xs.drop j
theorem Iv.at{p:α->ai}{xs:Y α}{m:Y α}(h:Iv p xs i j m)(hj:j<xs.length):m[j]'(by rw[h.len];exact hj)=xs[j]:=by
 have h1:=h.tl
 have h2:m[j]?=xs[j]?:=by
  have:=aH (λl=>l[0]?) h1;simpa using this
 grind
theorem Iv.drop{p:α->ai}{xs:Y α}{m:Y α}(h:Iv p xs i j m)(hj:j<xs.length)(hp:p xs[j]=aP):Iv p xs i (j+1) m:=by
 refine⟨by have:=h.ij;omega,hj,h.len,?_,?_⟩
 ·rw[h.hd,cg,bX hj,List.filter_append];simp[hp]
 ·have:=aH (List.drop 1) h.tl;simp_all
theorem Iv.jM{p:α->ai}{xs:Y α}{m:Y α}(h:Iv p xs i j m)(hj:j<xs.length)(hp:p xs[j]=aQ):Iv p xs (i+1) (j+1) (m.set i xs[j]):=by
 have Av:=h.ij;have hlen:=h.len;refine⟨by omega,hj,by grind,?_,?_⟩
 ·have h1:(m.set i xs[j]).take (i+1)=m.take i++[xs[j]]:=by
   grind [cg,List.take_set_of_le]
  rw[h1,h.hd,cg,bX hj,List.filter_append];simp[hp]
 ·rw[List.drop_set_of_lt bw];have:=aH (List.drop 1) h.tl;simp_all
theorem ah6[CF be fc][hA:tS [dZ A]](p:px->ai)(a:ah aX)(n c:ab)(xs:Y px)(hn:xs.length=n)(hs:n<=1099511627776)(hc:∀x∈xs,TR be G fc (([]:Y aR)++[iD (px.cs x).toArray]++cap).toArray [dZ A] (dC λv B=>v=.bool (p x)/\B=[dZ A])):
 TR be G 224 #[.slice a n c,.func (.func fc) #[] cap.toArray] [own 349 5 a n c (xs.flatMap px.cs),dZ A]
  (dC λv B=>v=.slice a (xs.filter λx=> !p x).length c/\B=[own 349 5 a (xs.filter λx=> !p x).length c ((xs.filter λx=> !p x).flatMap px.cs),dZ A]):=by
 subst hn
 refine bZ U λb O hb hG=>?_
 have tr:=wQ p xs 0
 refine xS ?_
 refine cP (nG (e:=349) (c:=c) (ah5 G fc cap A p a _ c xs U hs hc) bQ U (λ_=>rfl)) ?_
 rintro v B ⟨_,⟨rfl,rfl⟩,rfl⟩
 dsimp only[bh,bk,bj]
 generalize dM p 0 xs=J at*
 refine yB (J= -1) (¬J= -1) ?_ ?_<;>intro h
 ·exact bd9
 ·obtain⟨j0,hj0,rfl,hf0⟩:=tr.resolve_left λh2=>h h2.1;rw[bT]at*;refine gZ a bw λg hg=>?_;subst hg;refine xS ?_;refine fR [0,1] [0] (ι:={z:ab×ab×Y px // Iv p xs z.1 z.2.1 z.2.2}) (λz q_=>(5,.int .i64 (z.1.1:ae))::(6,.int .i64 (z.1.2.1:ae))::q_) (λz q_=>own 349 5 (aN ⟨g,0,aO⟩) xs.length c (z.1.2.2.flatMap px.cs)::q_) (λz=>xs.length - z.1.2.1) ⟨(j0,j0+1,xs),by dsimp only;omega,hj0,U,hf0.symm,U⟩ ?_;rintro⟨⟨i,j,m⟩,hI⟩ ih;dsimp only at hI ih ⊢;refine xB ?_ ?_<;>intro h2
  ·have hj:j<xs.length:=bQ;have Av:=hI.ij;have hjm:j<m.length:=by rw[hI.len];exact hj
   have L0:=hI.at hj;have hcj:=hc xs[j] (bE hj);have hdr:=hI.drop hj;have Ty:=hI.jM hj;rw[<-L0]at hcj hdr Ty;refine xS ?_;refine eA (j:=j) U U U U bw bw (xS ?_);refine ja (cC:=px.cs) (l:=m) j U U U U (λ_=>rfl) (bT _) hjm ?_;generalize m[j]=x at*;refine xA ?_;intro b7;refine jd (fst:=[]) (us:=[iD (px.cs x).toArray]) (cap:=cap) hG hcj U U U U bS.es ?_;rintro v B ⟨rfl,rfl⟩;refine xD ?_;refine yB (p x=aQ) (p x=aP) ?_ ?_<;>intro h3
   ·refine xS ?_;refine eA (j:=i) U U U U bw bw (xS ?_);refine pA (cC:=px.cs) (l:=m) i x U U U U (λ_=>rfl) (bT _) bw U U (xS ?_);exact be0
   exact be1
  ·have PG:j=xs.length:=by have:=hI.jn;grind
   subst PG;have Av:=hI.ij;have hlen:=hI.len;have hhd:=hI.hd;rw[bV]at hhd;have hil:(xs.filter λx=> !p x).length=i:=bQ;rw[hil,<-hhd];refine nX (aN ⟨g,0,aO⟩) λ_ qn=>xS ?_;refine EX (l:=i) (h:=xs.length) U U U (Bd.at U U) Bd.no bw bw ?_;refine Al (a:=aN ⟨g,0,aO⟩) (e:=349) (sz:=5) (n:=xs.length) (c:=c) i bw ?_;rw[AQ (sz:=5) (λ_=>rfl)];exact be3
theorem ah7[CF be fc](p:Rec->ai)(a:ah aX)(n c:ab)(xs:Y Rec)(hn:xs.length=n)(hs:n<=1099511627776)(hc:∀x∈xs,TR be G fc (([]:Y aR)++[iD (Rec.cs x).toArray]++cap).toArray [dZ A] (dC λv B=>v=.bool (p x)/\B=[dZ A])):
 TR be G 416 #[.slice a n c,.func (.func fc) #[] cap.toArray] [dp (cy Rec.cs) 4 a xs,dZ A] (dC λv B=>v=bR (dM p 0 xs)/\B=[dZ A]):=by
 refine bZ U λb O hb hG=>xS ?_
 refine fR [0,1] [] (ι:={i:ab // i<=n/\dM p 0 xs=dM p i (xs.drop i)}) (λi q_=>(7,bR n)::(8,bR i.1)::q_) (λi q_=>q_) (λi=>n - i.1) ⟨0,bp _,U⟩ ?_
 rintro⟨i,hi,hE⟩ ih
 dsimp only
 refine xB ?_ ?_<;>intro h
 ·have hi:i<xs.length:=bQ;refine xS ?_;refine dJ U U U U U hi hn λbl o=>?_;rw[ky _ xs i hi]at hE;have Fu:=hc xs[i] (bE hi);generalize xs[i]=x at*;refine xS ?_;refine eT U U U U (xS ?_);refine jd (fst:=[]) (us:=[iD (Rec.cs x).toArray]) (cap:=cap) hG Fu U U U U bS.es ?_;exact aE3
 ·exact aE4
end
section
variable{F:Y bG}{k:Bs}{B:ab}(l:Y o9)(i:ab)(G:dA)(a:ah aX)(n c:ab)(q:Y px)
theorem ah8(fc:ab)[CF be fc](cap:Y aR)(A:Y bG)[hA:tS [dZ A]](p:Rec->ai)(a:ah aX)(n c:ab)(xs:Y Rec)(hn:xs.length=n)(hs:n<=1099511627776)(hc:∀x∈xs,TR be G fc (([]:Y aR)++[iD (Rec.cs x).toArray]++cap).toArray [dZ A] (dC λv B=>v=.bool (p x)/\B=[dZ A])):
 TR be G 335 #[.slice a n c,.func (.func fc) #[] cap.toArray] [own 151 4 a n c (xs.flatMap Rec.cs),dZ A]
  (dC λv B=>v=.slice a (xs.filter λx=> !p x).length c/\B=[own 151 4 a (xs.filter λx=> !p x).length c ((xs.filter λx=> !p x).flatMap Rec.cs),dZ A]):=by
 subst hn
 refine bZ U λb O hb hG=>?_
 have tr:=wQ p xs 0
 refine xS ?_
 refine cP (nG (e:=151) (c:=c) (ah7 G fc cap A p a _ c xs U hs hc) bQ U (λ_=>rfl)) ?_
 rintro v B ⟨_,⟨rfl,rfl⟩,rfl⟩
 dsimp only[bh,bk,bj]
 generalize dM p 0 xs=J at*
 refine yB (J= -1) (¬J= -1) ?_ ?_<;>intro h
 ·exact bd9
 ·obtain⟨j0,hj0,rfl,hf0⟩:=tr.resolve_left λh2=>h h2.1;rw[bT]at*;refine gZ a bw λg hg=>?_;subst hg;refine xS ?_;refine fR [0,1] [0] (ι:={z:ab×ab×Y Rec // Iv p xs z.1 z.2.1 z.2.2}) (λz q_=>(5,.int .i64 (z.1.1:ae))::(6,.int .i64 (z.1.2.1:ae))::q_) (λz q_=>own 151 4 (aN ⟨g,0,aO⟩) xs.length c (z.1.2.2.flatMap Rec.cs)::q_) (λz=>xs.length - z.1.2.1) ⟨(j0,j0+1,xs),by dsimp only;omega,hj0,U,hf0.symm,U⟩ ?_;rintro⟨⟨i,j,m⟩,hI⟩ ih;dsimp only at hI ih ⊢;refine xB ?_ ?_<;>intro h2
  ·have hj:j<xs.length:=bQ;have Av:=hI.ij;have hjm:j<m.length:=by rw[hI.len];exact hj
   have L0:=hI.at hj;have hcj:=hc xs[j] (bE hj);have hdr:=hI.drop hj;have Ty:=hI.jM hj;rw[<-L0]at hcj hdr Ty;refine xS ?_;refine eA (j:=j) U U U U bw bw (xS ?_);refine ja (cC:=Rec.cs) (l:=m) j U U U U (λ_=>rfl) (bT _) hjm ?_;generalize m[j]=x at*;refine xA ?_;intro b7;refine jd (fst:=[]) (us:=[iD (Rec.cs x).toArray]) (cap:=cap) hG hcj U U U U bS.es ?_;rintro v B ⟨rfl,rfl⟩;refine xD ?_;refine yB (p x=aQ) (p x=aP) ?_ ?_<;>intro h3
   ·refine xS ?_;refine eA (j:=i) U U U U bw bw (xS ?_);refine pA (cC:=Rec.cs) (l:=m) i x U U U U (λ_=>rfl) (bT _) bw U U (xS ?_);exact be0
   exact be1
  ·have PG:j=xs.length:=by have:=hI.jn;grind
   subst PG;have Av:=hI.ij;have hlen:=hI.len;have hhd:=hI.hd;rw[bV]at hhd;have hil:(xs.filter λx=> !p x).length=i:=bQ;rw[hil,<-hhd];refine nX (aN ⟨g,0,aO⟩) λ_ qn=>xS ?_;refine EX (l:=i) (h:=xs.length) U U U (Bd.at U U) Bd.no bw bw ?_;refine Al (a:=aN ⟨g,0,aO⟩) (e:=151) (sz:=4) (n:=xs.length) (c:=c) i bw ?_;rw[AQ (sz:=4) (λ_=>rfl)];exact be3
namespace SM
abbrev T:=px
abbrev en:T->Y aR:=px.cs
abbrev e0:ab:=349
abbrev z0:ab:=5
abbrev f5:ab:=512
abbrev f4:ab:=496
abbrev f2:ab:=471
abbrev f3:ab:=472
abbrev f1:ab:=414
abbrev f0:ab:=330
theorem Gd:aa3 T en 349 5 512:=by
 intro G cmp a c a0 b0 cn A B C hA hB hC l ha HW hs
 exact aa8
theorem QU:aa4 T en 349 5 496:=by
 intro G cmp a c a0 m0 b0 A M B hA hM hB l h1 h2 HW hs
 exact aa9
theorem QV:aa5 T en 349 5 471:=by
 intro G cf fc _ hc a c a0 b0 A B hA hB l HW ha0 hs
 exact ab0
theorem QW:aa6 T en 349 5 472:=by
 intro G cf fc _ hc
 intro f
 induction f with
 |zero=>intro _ _ a0 m0 b0 _ _ _ _ _ _ l h1 h2 _ hf _;exact aD hf (by omega)
 |succ f IH=>
  intro a c a0 m0 b0 A M B hA hM hB l h1 h2 HW hf hs
  exact ab2
theorem QX:aa7 T en 349 5 414:=by
 intro G cf fc _ hc a c l hs
 exact ab4
theorem ua:Gc T en 349 5 330:=by
 intro G cf fc _ hc a n c l hn hs
 exact Ge
end SM
namespace SR
abbrev T:=Rec
abbrev en:T->Y aR:=Rec.cs
abbrev e0:ab:=151
abbrev z0:ab:=4
abbrev f5:ab:=513
abbrev f4:ab:=498
abbrev f2:ab:=476
abbrev f3:ab:=477
abbrev f1:ab:=420
abbrev f0:ab:=337
theorem Gd:aa3 T en 151 4 513:=by
 intro G cmp a c a0 b0 cn A B C hA hB hC l ha HW hs
 exact aa8
theorem QU:aa4 T en 151 4 498:=by
 intro G cmp a c a0 m0 b0 A M B hA hM hB l h1 h2 HW hs
 exact aa9
theorem QV:aa5 T en 151 4 476:=by
 intro G cf fc _ hc a c a0 b0 A B hA hB l HW ha0 hs
 exact ab0
theorem QW:aa6 T en 151 4 477:=by
 intro G cf fc _ hc
 intro f
 induction f with
 |zero=>intro _ _ a0 m0 b0 _ _ _ _ _ _ l h1 h2 _ hf _;exact aD hf (by omega)
 |succ f IH=>
  intro a c a0 m0 b0 A M B hA hM hB l h1 h2 HW hf hs
  exact ab2
theorem QX:aa7 T en 151 4 420:=by
 intro G cf fc _ hc a c l hs
 exact ab4
theorem ua:Gc T en 151 4 337:=by
 intro G cf fc _ hc a n c l hn hs
 exact Ge
end SR
def cfM(x y:o9):ae:=oJ x.no.toNat y.no.toNat
theorem bt5(x y:px):TR be G 331 #[.agg (px.cs x).toArray,.agg (px.cs y).toArray] [] (dX (.int .i64 (cfM x.1 y.1))):=ac8
def cfR(x y:Rec):ae:=oJ x.fQ.toNat y.fQ.toNat
theorem bt6(x y:Rec):TR be G 338 #[.agg (Rec.cs x).toArray,.agg (Rec.cs y).toArray] [] (dX (.int .i64 (cfR x y))):=ac8
theorem Wi(x:px):TR be G 225 (([]:Y aR)++[iD (px.cs x).toArray]++[]).toArray [dZ []] (dC λv B=>v=.bool (!x.1.jK)/\B=[dZ []]):=by
 refine dH U λb O hb hG=>?_;refine xP ?_;intro b2;exact xR
instance bL9(x:ae):FJ be 143 [.int .i64 x] [] (.bool (decide (64<=x)&&decide (x<=1048576))):=⟨λG=>by
 refine dH U λb O hb hG=>?_;refine xT 5 ?_ ?_<;>intro h
 ·exact VD
 ·refine xS ?_;exact cT hb (.tmps U) ⟨by grind [mv],U⟩⟩
def Wj(f:ca):ah o9:=if(cR f.name).1≠1 then aO else aN ⟨f,(cR f.name).2,(il f.data []).map (·.f.lW),(hintOf f.data).2==0⟩
def wR(l:Y ca):Y o9:=l.filterMap Wj
def wS(l:Y ca):Y o9:=lE (λx y=>decide (cfM x y<0)) (wR l)
def H4(q:Y px):bG:=
 ro λr=>∀x∈q,(x.1.jE.data.length<=x.2.1.2/\(x.2.1.1=aO->x.1.jE.data.length=0/\x.2.1.2=0)/\xm RB 1 x.2.1.1 x.1.jE.data r)/\xm (cy Rec.cs) 4 x.2.2.1 x.1.sL r
instance EM.H4(H A r F:Y bG)(q:Y px)[h1:FP H (H4 q) r][h2:EM H A F]:EM H (H4 q::A) F:=⟨EM.jM h1.out h2.out⟩
instance EK.H4(H A r:Y bG)(q:Y px)[h1:FP H (H4 q) r][h2:EK H A]:EK H (H4 q::A):=EK.ro H A r _ (h1:=h1)
section
variable {b:bc}{O:de}{k:Kt}{E:Env}{H:Y bG}{R:aZ->Y bG->Prop}{cc:ah (ar aW×Y aW)}
theorem aS0(x:px)(hx:x∈q)[hf:FP H (H4 q) F](h:x.1.jE.data.length<=x.2.1.2->(x.2.1.1=aO->x.1.jE.data.length=0/\x.2.1.2=0)->X be b O cc k E (dp RB 1 x.2.1.1 x.1.jE.data::dp (cy Rec.cs) 4 x.2.2.1 x.1.sL::H) R):X be b O cc k E H R:=by
 refine j9 λw hs=>?_
 have h1:=Sat.ro (hs.dE hf.out) x hx
 have h2:bS H (dp RB 1 x.2.1.1 x.1.jE.data::dp (cy Rec.cs) 4 x.2.2.1 x.1.sL::H):=bc0
 exact⟨_,hs.dE h2,h h1.1.1 h1.1.2.1⟩
theorem aR6(q':Y px)(hq:∀y∈q',y∈q)[hf:FP H (H4 q) F](h:X be b O cc k E (H4 q'::H) R):X be b O cc k E H R:=
 X.dE (js hf.out λr hr y hy=>hr y (hq y hy)) h
theorem bC4(h:X be b O cc k E (H4 []::H) R):X be b O cc k E H R:=
 X.dE (Hs':=H4 []::H) (λ_ o hs=>⟨gI,o,ef _,dQ _,.refl _,λ_ _ x hx=>vE,hs⟩) h
theorem bD1(y:px)(h1:y.1.jE.data.length<=y.2.1.2)(h2:y.2.1.1=aO->y.1.jE.data.length=0/\y.2.1.2=0){F1 F2:Y bG}[hf:FP H (H4 q) F][hf1:FP H (dp RB 1 y.2.1.1 y.1.jE.data) F1][MI:FP H (dp (cy Rec.cs) 4 y.2.2.1 y.1.sL) F2](h:X be b O cc k E (H4 (q++[y])::H) R):X be b O cc k E H R:=by
 refine X.dE ?_ h
 intro r o hh
 obtain⟨_,_,_,_,_,hp0,_⟩:=hf.out r o hh
 obtain⟨_,_,_,_,_,l6,_⟩:=hf1.out r o hh
 obtain⟨_,_,_,_,_,vo,_⟩:=MI.out r o hh
 refine⟨gI,o,ef _,dQ _,.refl _,λr' pg x hx=>?_,hh⟩
 rcases du.1 hx with hx|hx
 ·exact hp0 r' pg x hx
 ·exact bc8
end
theorem RR{p:Bs×ae}{v:aR}{B:Y bG}(h:Zq p v B):∃a n c,v=.tuple #[.slice a n c,.int .i64 p.2]:=by
 rcases h with⟨h1,a,c,rfl,_⟩|⟨_,rfl,_⟩;all_goals simp_all
theorem ah9(xs:Bs)(hn:xs.length=n)(qn:n<=c)(hs:n<=1000000000):
 TR be G 329 #[.slice a n c] [dp RB 1 a xs] (dC λv B=>(∃a n c,v=.tuple #[.slice a n c,.int .i64 (hintOf xs).2])/\B=[]):=by
 refine(KW G a n c xs hn qn hs).eY (bS.refl _) ?_
 rintro e B hB
 cases e with
 |panicked ch=>exact hB.elim
 |outgrown=>exact hB.elim
 |returned v=>exact⟨[],⟨RR hB,U⟩,bS.nil _⟩
theorem ai0(q:Y (WB ca))(hn:q.length=n)(hs:n<=1000000000000)(hb:∀x∈q,x.1.name.length<=1000000/\x.1.data.length<=1000000000):
 TR be GG 221 #[.slice a n c] [dp (cy bY) 2 a q,eQ ca.data q] (dC λv B=>∃a6 c6,∃q6:Y px,q6.map (·.1)=wS (q.map (·.1))/\v=.slice a6 q6.length c6/\B=[own 349 5 a6 q6.length c6 (q6.flatMap px.cs),H4 q6]):=by
 subst hn
 refine dH U λb O VH hG=>xS ?_
 refine X.dE (fh 349 5 _) ?_
 refine bC4 ?_
 refine fR [13] [1,0] (ι:={z:ab×(ah aX×ab)×Y px // z.1<=q.length/\z.2.2.map (·.1)=wR ((q.map (·.1)).take z.1)}) (λz q_=>(3,.slice z.1.2.1.1 z.1.2.2.length z.1.2.1.2)::(14,bR q.length)::(15,bR z.1.1)::q_) (λz q_=>own 349 5 z.1.2.1.1 z.1.2.2.length z.1.2.1.2 (z.1.2.2.flatMap px.cs)::H4 z.1.2.2::q_) (λz=>q.length - z.1.1) ⟨(0,(aO,0),[]),bp _,U⟩ ?_
 rintro⟨⟨i,⟨a3,c3⟩,Q⟩,hi,hQ⟩ ih
 dsimp only at hi hQ ih ⊢
 have hQl:Q.length<=q.length:=by
  grind [List.length_filterMap_le,wR]
 refine xB ?_ ?_<;>intro h
 ·have hi:i<q.length:=bQ;have jv:=bE hi;obtain⟨hb1,S9⟩:=hb _ jv;have xz:wR ((q.map (·.1)).take (i+1))=wR ((q.map (·.1)).take i)++(Wj q[i].1).toList:=by
   grind [wR,cg]
  rw[<-hQ]at xz;refine nH (data:=ca.data) q q[i] jv λjT mX=>xS ?_;refine dJ U U U U U hi U λbl o=>?_;generalize q[i]=x at*;have Lh:Wj x.1=if(cR x.1.name).1≠1 then aO else aN ⟨x.1,(cR x.1.name).2,(il x.1.data []).map (·.f.lW),(hintOf x.1.data).2==0⟩:=U;refine xS ?_;refine eT U U U U  ?_;refine xA ?_;intro b5;refine xJ (n4 x.1.name bw) ?_;refine xB ?_ ?_<;>intro h1
  ·have h1:(cR x.1.name).1≠1:=by
    grind
   rw[ao h1]at Lh;rw[Lh,Option.toList,bj]at xz;refine xS ?_;exact X.W (ih ⟨(i+1,(a3,c3),Q),by omega,xz.symm⟩ bQ)
  have h1:¬(cR x.1.name).1≠1:=by
   grind
  rw[aj h1]at Lh;refine xS ?_;refine cM hG (ah9 GG x.2.1 _ x.2.2 x.1.data U jT S9) U U U eC ?_;rintro v B ⟨⟨ha,hn,hc,rfl⟩,rfl⟩;refine xD ?_;refine xA ?_;intro tu;refine ku ae RK 1 ?_;refine cM hG (zb GG x.2.1 _ x.2.2 x.1.data aO 0 0 [] U jT S9 U eK) U U U eC ?_;rintro v B ⟨a40,c40,rfl,rfl⟩;dsimp only[bh,bk,bj];have qN:(il x.1.data []).length<=1000000000:=bo (eF _ _) (bo (nt _) S9);generalize il x.1.data []=W at*;refine dR a40 tK.cs W U U (λ_=>rfl) λ_=>xS ?_;refine X.dE (fh 151 4 _) ?_;refine fR [3,10,13,14,15,40] [2,3,3,2,0] (ι:={z:ab×ah aX×ab // z.1<=W.length}) (λz q_=>(41,bR W.length)::(42,bR z.1.1)::q_) (λz q_=>bx tu 349 [bn x.1.name,.slice x.2.1 x.1.data.length x.2.2,.int .u32 (cR x.1.name).2.toNat,.slice z.1.2.1 ((W.take z.1.1).map (·.f.lW)).length z.1.2.2,.bool ((hintOf x.1.data).2==0)]::own 151 4 z.1.2.1 ((W.take z.1.1).map (·.f.lW)).length z.1.2.2 (((W.take z.1.1).map (·.f.lW)).flatMap Rec.cs)::q_) (λz=>W.length - z.1.1) ⟨(0,aO,0),bp _⟩ ?_;rintro⟨⟨j,a2,c2⟩,hj⟩ rb;dsimp only at hj rb ⊢;refine xB ?_ ?_<;>intro h2
  ·have hj:j<W.length:=bQ;have htj:(W.take (j+1)).map (·.f.lW)=(W.take j).map (·.f.lW)++[W[j].f.lW]:=QY;have hlj:((W.take j).map (·.f.lW)).length<=1000000000:=bQ;generalize(W.take j).map (·.f.lW)=Z at*;refine xS ?_;refine dJ U U U U U hj U λY' o2=>?_;generalize W[j]=y at*;refine xS ?_;refine eT U U U U  ?_;refine xA ?_;intro Dn;refine xZ ?_;intro b51;refine fH (y.f.lW) U U U U bw U cE cE cE cE cE bw λa52 c52=>xS ?_;refine X.less (rb ⟨(j+1,a52,c52),by omega⟩ bQ) ?_ ?_
   ·dsimp only;exact bM0
   ·dsimp only;rw[htj];exact bA
  ·have PG:j=W.length:=bQ;subst PG;rw[bV];rw[Lh,Option.toList]at xz;generalize W.map (·.f.lW)=rs at*;refine dR a2 Rec.cs rs U U (λ_=>rfl) λ_=>?_;refine xZ ?_;intro b57;refine fH (((⟨x.1,(cR x.1.name).2,rs,(hintOf x.1.data).2==0⟩,x.2,(a2,c2)):px)) U U U U bw U cE cE cE cE cE bw λa58 c58=>xS ?_;refine bD1 Q ((⟨x.1,(cR x.1.name).2,rs,(hintOf x.1.data).2==0⟩,x.2,(a2,c2)):px) jT mX ?_;have KC:(Q++[((⟨x.1,(cR x.1.name).2,rs,(hintOf x.1.data).2==0⟩,x.2,(a2,c2)):px)]).map (·.1)=wR ((q.map (·.1)).take (i+1)):=bQ;exact X.W (ih ⟨(i+1,(a58,c58),Q++[((⟨x.1,(cR x.1.name).2,rs,(hintOf x.1.data).2==0⟩,x.2,(a2,c2)):px)]),by omega,KC⟩ bQ)
 have gj:i=q.length:=bQ
 subst gj
 rw[bI dW]at hQ
 refine xO (SM.ua GG (λx y=>cfM x.1 y.1) 331 (λx y=>bt5 GG x y) a3 _ c3 Q U bw) ?_
 refine aR6 Q (lE (λx y=>decide (cfM x.1 y.1<0)) Q) (λy hy=>(jV _ _).mem_iff.1 hy) ?_
 exact X.ret VH (.tmps U) ⟨_,⟨a3,c3,lE (λx y=>decide (cfM x.1 y.1<0)) Q,by rw[Gb (λx:px=>x.1) (λx y:o9=>decide (cfM x y<0)),hQ];rfl,by grind [mv,kX],U⟩,by rw[kX];exact bA⟩
abbrev Rec.v(r:Rec):aR:=.agg r.cs.toArray
theorem bM1(p q:Rec):(((p.fQ.toNat:ae)==(q.fQ.toNat:ae))&&((p.kind==q.kind)&&((p.key==q.key)&&(p.val==q.val))))=(p==q):=by
 obtain⟨a,b,c,d⟩:=p
 obtain⟨a',b',c',d'⟩:=q
 grind [iX]
theorem bM2(p q:Rec)(w:aV):(Op.equal 151 (Rec.v p) (Rec.v q)).run be w=.ok (p==q) w:=by
 unfold Op.equal;have h:=aV2 9998 p.fQ.toNat q.fQ.toNat p.kind q.kind p.key q.key p.val q.val w;rw[bM1]at h;exact h
theorem Oy(x:Rec):∀(es:Y MapEntry) (ks:Y Rec) (i:ab) (w:aV),es.map (·.key)=ks.map Rec.v->
 (Instr.findAsking 151 (Rec.v x) es i).run be w=.ok ((ks.findIdx? (·=x)).bind λj=>(es[j]?).map λe=>(i+j,e.val)) w
 |[],[],i,w,_=>by simp[Instr.findAsking]
 |[],_::_,_,_,h=>by simp at h
 |_::_,[],_,_,h=>by simp at h
 |e::es,y::ks,i,w,h=>by
  simp only[bN,List.cons.injEq]at h;obtain⟨h1,h2⟩:=h;simp only[Instr.findAsking,h1,cb,bM2,bJ];by_cases hxy:x=y
  ·subst hxy;simp[List.findIdx?_cons]
  ·have hyx:¬y=x:=λh=>hxy h.symm;have hb:(x==y)=aQ:=bQ;simp only[hb,di,aI];rw[Oy x es ks (i+1) w h2,List.findIdx?_cons];exact YJ
theorem oe:Keyed be 151 Rec.v:=by
 refine⟨λe x w=>?_,λx es ks w h=>?_,λx w=>?_⟩
 ·rw[show(10000:ab)=9999+1 from rfl,iI];simp only[cb,cI Tryz.underlying151,bJ];have c1:∀(t:ab) (kk:IntKind) (v:ae) (_:be.underlying t=aN (.int kk)),(iI e 9999 t (.int kk v)).run be w=.ok () w:=bb0;have c2:∀(v:Bs),(iI e 9999 9 (bn v)).run be w=.ok () w:=by
   intro v;rw[show(9999:ab)=9998+1 from rfl,iI];simp[cI gD]
  have p0:=kR (w:=w) 87 0 x.cs.toArray dW;have p1:=kR (w:=w) 149 1 x.cs.toArray dW;have p2:=kR (w:=w) 9 2 x.cs.toArray dW;have p3:=kR (w:=w) 9 3 x.cs.toArray dW;simp at p0 p1 p2 p3;simp[p0,p1,p2,p3,c1 87 .u64 _ Tryz.underlying87,c1 149 .i64 _ Tryz.underlying149,c2]
 ·simp only[Instr.findKey,cb,cI Tryz.underlying151,bJ];cases es with
  |nil=>
   exact bb1
  |cons e0 es0=>
   have hn:∀fs,Instr.findNow (.struct fs) (Rec.v x) (e0::es0) 0=aO:=bb2;rw[hn];have:=Oy x (e0::es0) ks 0 w h;simpa using this
 ·have:Instr.sameBits 10000 (Rec.v x) (Rec.v x)=aP:=by
   rw[show(10000:ab)=9998+1+1 from rfl];generalize 9998=n;simp[Instr.sameBits,B8]
  simp[Instr.keyThatStays,this]
instance:ze be 344 (.map aO):=⟨by kernel_rfl⟩
def ai1(l:Y Rec)(r:Rec):Y Rec:=if r∈l then l else l++[r]
def uniq(l:Y Rec):Y Rec:=l.foldl ai1 []
theorem Wk(l:Y Rec)(r:Rec):uniq (l++[r])=ai1 (uniq l) r:=by grind [uniq]
theorem ai2(l:Y Rec)(r x:Rec):x∈ai1 l r↔x∈l\/x=r:=by
 grind [ai1]
theorem Oz(l:Y Rec)(x:Rec):x∈uniq l↔x∈l:=by
 have key:∀(l a:Y Rec),x∈l.foldl ai1 a↔x∈a\/x∈l:=by
  intro l;induction l<;>grind [ai2]
 grind [uniq]
abbrev RV:=Y (Rec×aR)
structure RT(B:ab)(l:Y Rec)(z:RV):Prop where
 keys:z.map (·.1)=uniq l
 pos:∀y∈z,∃n:ab,y.2=bR n/\1<=n/\n<=B
theorem RT.nil(B:ab):RT B [] []:=⟨U,λy h=>by cases h⟩
theorem RT.get{l:Y Rec}{z:RV}(h:RT B l z)(r:Rec):∃n:ab,(gM z r).getD (bR 0)=bR n/\n<=B/\(0<n↔r∈l):=by
 have hm:(gM z r).isSome=decide (r∈uniq l):=by
  rw[<-h.keys]
  grind [gM]
 cases hg:gM z r with
 |none=>
  grind [Oz]
 |some v=>
  rw[hg]at hm
  have h2:r∈uniq l:=bQ
  rw[Oz]at h2
  unfold gM at hg
  obtain⟨y,hy,rfl⟩:=cz.1 hg
  obtain⟨n,h3,h4,h5⟩:=h.pos y (List.mem_of_find?_eq_some hy)
  grind
theorem RT.put{l:Y Rec}{z:RV}(h:RT B l z)(r:Rec){n:ab}(h1:1<=n)(h2:n<=B+1):RT (B+1) (l++[r]) (iT z r (bR n)):=by
 refine⟨?_,?_⟩
 ·rw[tZ,h.keys,Wk];rfl
 ·exact rJ (p:=λv=>∃n:ab,v=bR n/\1<=n/\n<=B+1) (λy hy=>by
   obtain⟨n,h3,h4,h5⟩:=h.pos y hy
   grind) ⟨n,U,h1,h2⟩
theorem RT.mono{B':ab}{l:Y Rec}{z:RV}(h:RT B l z)(hb:B<=B'):RT B' l z:=⟨h.keys,λy hy=>by
 obtain⟨n,h3,h4,h5⟩:=h.pos y hy
 grind⟩
structure yV where
 all:Y Rec
 jK:Y Rec
 top:az
def yV.add(c:yV)(o:ai)(r:Rec):yV:=⟨c.all++[r],if o=aP then c.jK++[r]else c.jK,if c.top<r.fQ then r.fQ else c.top⟩
def pP(l:Y Rec)(k:Bs):Y Rec:=l.filter λr=>r.key==k
structure Bp where
 aa:ah aX
 ac:ab
 KB:ab
 OB:ab
 ks:Y (Bs×ab×RV)
 oz:RV
structure Bp.ok(i:Bp)(c:yV):Prop where
 len:c.all.length<=1000000000
 nd:(i.ks.map (·.1)).Nodup
 ks:∀x∈i.ks,RT c.all.length (pP c.all x.1) x.2.2
 all:∀r∈c.all,r.key∈i.ks.map (·.1)
 oz:RT c.all.length c.jK i.oz
abbrev Wl(ks:Y (Bs×ab×RV)):Y (Bs×aR):=ks.map λx=>(x.1,.map (aN x.2.1))
abbrev Wm(x:Bs×ab×RV):bG:=mp Rec.v x.2.1 x.2.2
abbrev yV.cs(c:yV)(i:Bp):Y aR:=[.slice i.aa c.all.length i.ac,.map (aN i.KB),.map (aN i.OB),.int .u64 c.top.toNat]
def qD(b:ab)(c:yV):bG:=ex λi:Bp=>[pu (i.ok c),bx b 346 (c.cs i),own 151 4 i.aa c.all.length i.ac (c.all.flatMap Rec.cs),mp bn i.KB (Wl i.ks),mp Rec.v i.OB i.oz,dZ (i.ks.map Wm)]
theorem Lu{ks:Y (Bs×ab×RV)}(k:Bs):(gM (Wl ks) k=aO/\k∉ks.map (·.1))\/∃j,∃(_:j<ks.length),gM (Wl ks) k=aN (.map (aN ks[j].2.1))/\ks[j].1=k:=by
 induction ks with
 |nil=>exact .inl ⟨U,by simp⟩
 |cons x r ih=>
  unfold gM Wl at*
  rw[bN,List.find?_cons]
  by_cases h:x.1=k
  ·grind
  ·have h2:decide (x.1=k)=aQ:=bQ
   rw[h2]
   rcases ih with⟨h3,h4⟩|⟨j,hj,h3,h4⟩
   ·grind
   ·exact .inr ⟨j+1,by grind,h3,h4⟩
theorem aJ2{ks:Y (Bs×ab×RV)}(h:k∉ks.map (·.1))(b:ab):iT (Wl ks) k (.map (aN b))=Wl (ks++[(k,b,[])]):=by
 grind [nr]
theorem DL{i:Bp}{c:yV}(h:i.ok c)(hk:k∉i.ks.map (·.1)):pP c.all k=[]:=by
 unfold pP;rw[List.filter_eq_nil_iff];intro r hr hh;have hh:r.key=k:=bQ;exact hk (hh▸h.all r hr)
theorem Bp.ok.fresh{i:Bp}{c:yV}(h:i.ok c)(hk:k∉i.ks.map (·.1))(b:ab):Bp.ok {i with ks:=i.ks++[(k,b,[])]} c:=by
 refine⟨h.len,?_,?_,?_,h.oz⟩
 ·show((i.ks++[(k,b,([]:RV))]).map (λx:Bs×ab×RV=>x.1)).Nodup
  rw[dx,fN]
  refine⟨h.nd,by simp,λa ha b' hb'=>?_⟩
  grind
 ·intro x hx
  rcases du.1 hx with hx|hx
  ·exact h.ks x hx
  grind [DL,RT.nil]
 ·intro r hr
  have:=h.all r hr
  grind
theorem OA(ks:Y (Bs×ab×RV))(j:ab)(h:j<ks.length)(z:RV):(ks.set j (ks[j].1,ks[j].2.1,z)).map (·.1)=ks.map (·.1):=by
 rw[fL]
 apply List.ext_getElem dW
 grind
theorem aJ3(ks:Y (Bs×ab×RV))(j:ab)(h:j<ks.length)(z:RV):Wl (ks.set j (ks[j].1,ks[j].2.1,z))=Wl ks:=by
 unfold Wl
 rw[fL]
 apply List.ext_getElem dW
 grind
theorem Bp.ok.add{i:Bp}{c:yV}(h:i.ok c)(hl:c.all.length+1<=1000000000)(r:Rec)(o:ai)(j:ab)(hj:j<i.ks.length)(hjk:i.ks[j].1=r.key){n m:ab}(hn:1<=n/\n<=c.all.length+1)(hm:1<=m/\m<=c.all.length+1)(aa:ah aX)(ac:ab):
 Bp.ok ⟨aa,ac,i.KB,i.OB,i.ks.set j (i.ks[j].1,i.ks[j].2.1,iT i.ks[j].2.2 r (bR n)),if o=aP then iT i.oz r (bR m)else i.oz⟩ (c.add o r):=by
 have sF:(c.add o r).all=c.all++[r]:=U
 refine⟨?_,?_,?_,?_,?_⟩
 ·grind
 ·show((i.ks.set j _).map (λx:Bs×ab×RV=>x.1)).Nodup;rw[OA];exact h.nd
 ·intro x hx;rw[sF,bK,List.length_singleton];have hx:x∈i.ks.set j (i.ks[j].1,i.ks[j].2.1,iT i.ks[j].2.2 r (bR n)):=hx;obtain⟨t,ht,rfl⟩:=List.mem_iff_getElem.1 hx;rw[fJ]at ht;by_cases hjt:j=t
  ·subst hjt;rw[List.getElem_set_self];dsimp only;have h1:=h.ks i.ks[j] (bE hj);rw[hjk]at h1 ⊢;have h2:pP (c.all++[r]) r.key=pP c.all r.key++[r]:=by grind [pP]
   rw[h2];exact h1.put r hn.1 hn.2
  ·rw[List.getElem_set_ne hjt];have h1:=h.ks i.ks[t] (bE ht);have mf:¬r.key=i.ks[t].1:=by
    intro he;have h3:(i.ks.map (·.1))[j]' bQ=(i.ks.map (·.1))[t]' bQ:=by
     grind
    exact hjt ((List.getElem_inj h.nd).1 h3)
   have h2:pP (c.all++[r]) i.ks[t].1=pP c.all i.ks[t].1:=by
    grind [pP]
   rw[h2];exact h1.mono bw
 ·intro x hx
  show x.key∈(i.ks.set j _).map (λx:Bs×ab×RV=>x.1)
  rw[OA]
  rw[sF]at hx
  rcases du.1 hx with hx|hx
  ·exact h.all x hx
  grind
 ·rw[sF,bK,List.length_singleton];show RT _ (if o=aP then c.jK++[r]else c.jK) (if o=aP then iT i.oz r (bR m)else i.oz);split
  ·exact h.oz.put r hm.1 hm.2
  ·exact h.oz.mono bw
def ai3(c:yV)(s:o9):yV:=s.sL.foldl (λc r=>c.add s.jK r) c
def qZ(l:Y o9):yV:=l.foldl ai3 ⟨[],[],0⟩
def Bq(l:Y o9):ab:=(l.map λs=>s.sL.length).sum
theorem RW(h:i<l.length):qZ (l.take (i+1))=ai3 (qZ (l.take i)) l[i]:=by
 grind [qZ,cg]
theorem Br(o:ai):∀(l:Y Rec) (c:yV),(l.foldl (λc r=>c.add o r) c).all=c.all++l
 |[],c=>by simp
 |r::l,c=>by rw[eD,Br o l];show(c.all++[r])++l=_;simp
theorem Wn:(qZ l).all=l.flatMap (·.sL):=by
 have key:∀(l:Y o9) (c:yV),(l.foldl ai3 c).all=c.all++l.flatMap (·.sL):=by
  intro l;induction l with
  |nil=>intro c;simp
  |cons s r ih=>intro c;rw[eD,ih,ai3,Br,ei,cB]
 grind [qZ]
theorem Wo:Bq (l.take i)<=Bq l:=by
 grind [Bq,dV]
theorem uj:(qZ l).all.length=Bq l:=by rw[Wn,List.length_flatMap];rfl
theorem bt7(hn:q.length=n)(hs:n<=1000000000000)(iP:Bq (q.map (·.1))<=1000000000):
 TR be G 222 #[.slice a n c] [dp (cy px.cs) 5 a q,H4 q] (dC λv B=>∃C,v=bu C/\B=[qD C (qZ (q.map (·.1)))]):=by
 subst hn
 refine dH U λb O VH hG=>xS ?_
 refine sP bn U U λKB=>xS ?_
 refine sP Rec.v U U λOB=>?_
 refine xP ?_
 intro C
 refine X.dE (fh 151 4 _) ?_
 refine hU ([]:Y bG) ?_
 refine X.dE (fE (p:=Bp.ok ⟨aO,0,KB,OB,[],[]⟩ ⟨[],[],0⟩) ⟨by simp,by simp,λx hx=>vE,λx hx=>vE,RT.nil _⟩ _) ?_
 refine X.dE (Hs':=[pu (Bp.ok ⟨aO,0,KB,OB,[],[]⟩ ⟨[],[],0⟩),dZ (([]:Y (Bs×ab×RV)).map Wm),own 151 4 aO 0 0 (([]:Y Rec).flatMap Rec.cs),bx C 346 (yV.cs ⟨[],[],0⟩ ⟨aO,0,KB,OB,[],[]⟩),mp Rec.v OB [],mp bn KB (Wl []),dp (cy px.cs) 5 a q,H4 q]) (bS.refl _) ?_
 refine gr qD C ⟨[],[],0⟩ U ⟨aO,0,KB,OB,[],[]⟩ ?_
 refine fR [3,12] [0] (ι:={i:ab // i<=q.length}) (λi q_=>(13,bR q.length)::(14,bR i.1)::q_) (λi q_=>qD C (qZ ((q.map (·.1)).take i.1))::q_) (λi=>q.length - i.1) ⟨0,bp _⟩ ?_
 rintro⟨i,hi⟩ ih
 dsimp only at hi ih ⊢
 refine xB ?_ ?_<;>intro h
 ·have hi:i<q.length:=bQ;have jv:=bE hi;have hct:=RW (q.map (·.1)) i K5;have yN:=uj ((q.map (·.1)).take i);have hcl2:=uj ((q.map (·.1)).take (i+1));have hmt:=Wo (q.map (·.1)) (i+1);rw[gG]at hct;refine aS0 q q[i] jv λ_ _=>?_;generalize qZ ((q.map (·.1)).take i)=c0 at*;refine xS ?_;refine dJ U U U U U hi U λbl o=>?_;generalize q[i]=x at*;have hcr:ai3 c0 x.1=x.1.sL.foldl (λc r=>c.add x.1.jK r) c0:=U;have sF:=Br x.1.jK x.1.sL c0;rw[<-hcr,<-hct]at sF;rw[hcr]at hct;refine xS ?_;refine eT U U U U  ?_;refine xA ?_;intro b5;have N2:c0.all.length+x.1.sL.length<=1000000000:=by
   grind
  refine fR [3,5,12,13,14,19] [1,1,2] (ι:={z:ab×yV // z.1<=x.1.sL.length/\z.2=(x.1.sL.take z.1).foldl (λc r=>c.add x.1.jK r) c0}) (λz q_=>(20,bR x.1.sL.length)::(21,bR z.1.1)::q_) (λz q_=>qD C z.1.2::q_) (λz=>x.1.sL.length - z.1.1) ⟨(0,c0),bp _,U⟩ ?_;rintro⟨⟨j,cj⟩,hj,hcj⟩ rb;dsimp only at hj hcj rb ⊢;have hjl:cj.all.length=c0.all.length+j:=by rw[hcj,Br,bK,dG];omega
  refine xB ?_ ?_<;>intro h2
  ·have hj:j<x.1.sL.length:=bQ
   have XC:cj.add x.1.jK x.1.sL[j]=(x.1.sL.take (j+1)).foldl (λc r=>c.add x.1.jK r) c0:=by
    grind [cg]
   refine xS ?_
   refine dJ U U U U U hj U λY' o2=>?_
   generalize x.1.sL[j]=r at*
   refine xS ?_
   refine eT U U U U  ?_
   refine xA ?_
   intro b7
   refine X.l8 qD C U λI=>?_
   dsimp only[bh,bk,bj]
   refine mF λhI=>?_
   obtain⟨aa,ac,KB,OB,ks,oz⟩:=I
   dsimp only[yV.cs]at hI ⊢
   have tr:=Lu (ks:=ks) r.key
   refine XQ [3,5,7,12,13,14,19,20,21] [2,3,4] (ι:={z:Y (Bs×ab×RV)×ab // Bp.ok ⟨aa,ac,KB,OB,z.1,oz⟩ cj/\∃h:z.2<z.1.length,z.1[z.2].1=r.key}) (λz q_=>q_) (λz q_=>mp bn KB (Wl z.1.1)::dZ (z.1.1.map Wm)::q_) ?fin ?main
   case main=>
    intro KK dF;rcases tr with⟨hg,hk⟩|⟨t,ht,hg,hk⟩
    ·refine fU 8 [0,2,5] ?_;apply dB [0,1,2,3,4,5,6,7] U U U
     ·intro p hp;refine xS ?_;refine tP (zv:=.map aO) r.key U U U U ?_;rw[hg,Option.getD_none];exact be4
     ·rfl
     ·rfl
     refine xS ?_;refine fU 6 [0,5] ?_;refine xL [0,1,2,3,4,5] ?_;refine xS ?_;refine sP Rec.v U U λNB=>xS ?_;refine rM r.key dy U U U U ?_;rw[aJ2 hk];refine xS ?_;refine bC7 Wm ks (r.key,NB,[]) ?_;exact X.W (dF ⟨(ks++[(r.key,NB,[])],ks.length),hI.fresh hk NB,by simp,by simp⟩)
    ·refine fU 8 [0,2,5] ?_;apply dB [0,1,2,3,4,5,6,7] U U U
     ·intro p hp;refine xS ?_;refine tP (zv:=.map aO) r.key U U U U ?_;rw[hg,dz];exact be4
     ·rfl
     ·rfl
     refine xS ?_;exact X.W (dF ⟨(ks,t),hI,ht,hk⟩)
   case fin=>
    clear tr hI
    rintro⟨⟨ks,t⟩,hI,ht,hk⟩
    dsimp only at hI ht hk ⊢
    have hg:gM (Wl ks) r.key=aN (.map (aN ks[t].2.1)):=by
     rcases Lu (ks:=ks) r.key with⟨_,h4⟩|⟨u,hu,h3,h4⟩
     ·grind
     ·have h5:(ks.map (·.1))[u]' bQ=(ks.map (·.1))[t]' bQ:=by
       grind
      have:=(List.getElem_inj hI.nd).1 h5
      grind
    obtain⟨n1,D7,vm,_⟩:=(hI.ks _ (bE ht)).get r
    obtain⟨m1,qM,KC,_⟩:=hI.oz.get r
    have hsk:=aJ3 ks t ht (iT ks[t].2.2 r (.int .i64 ((n1:ae)+1)))
    have MK:=λo=>hI.add bw r o t ht hk (n:=n1+1) (m:=m1+1) ⟨by omega,by omega⟩ ⟨by omega,by omega⟩
    have e1:bR ((n1+1:ab):ae)=.int .i64 ((n1:ae)+1):=nM
    have e2:bR ((m1+1:ab):ae)=.int .i64 ((m1:ae)+1):=nM
    rw[e1,e2]at MK
    refine X6 Wm ks t ht ?_
    generalize PI:ks[t]=e at*
    obtain⟨ek,eb,ez⟩:=e
    dsimp only[Wm]at*
    have D7:(gM ez r).getD (.int .i64 0)=.int .i64 n1:=D7
    have qM:(gM oz r).getD (.int .i64 0)=.int .i64 m1:=qM
    refine xS ?_
    refine tq [3,5,7,12,13,14,19,20,21] [0] (ι:=aA) (λ_ q_=>q_) (λ_ q_=>mp Rec.v eb (iT ez r (.int .i64 (n1+1)))::q_) ?f2 ?m2
    case m2=>
     intro KK dF;refine fG (sG [0,1,2,3,4,5,6,7]) [bx C 346 [.slice aa cj.all.length ac,.map (aN KB),.map (aN OB),.int .u64 cj.top.toNat],mp bn KB (Wl ks),bx b7 151 r.cs] U ?_;apply dB [0,1,2,3,4,5,6,7] U U U
     ·intro p hp;refine xS ?_;refine tP (zv:=.map aO) r.key U U U U ?_;rw[hg,dz];refine xS ?_;exact hp
     ·rfl
     ·rfl
     refine xS ?_;refine eN U U U U U ?_ ?_
     ·refine sQ (zv:=.int .i64 0) r oe U U U U (λw _=>ze.run (P:=be) (t:=3) ax w) ?_;rw[D7];exact bM3
     ·refine EV r oe U U U U λjj st H2=>xS ?_;refine eN U U U U U ?_ ?_
      ·refine BU (zv:=.int .i64 0) r oe U U U U (λw=>ze.run (P:=be) (t:=3) ax w) ?_;rw[oC,ao U,dz];rw[D7]at H2 ⊢;exact bM4
      ·refine xS ?_;refine BU (zv:=.int .i64 0) r oe U U U U (λw=>ze.run (P:=be) (t:=3) ax w) ?_;rw[oC,ao U,dz];rw[D7]at H2 ⊢;exact bM5
    case f2=>
     intro _
     have MK:=MK x.1.jK
     have hksl:(ks.set t (ek,eb,iT ez r (.int .i64 ((n1:ae)+1)))).length=ks.length:=fJ ..
     refine UH Wm ks t ht (ek,eb,iT ez r (.int .i64 ((n1:ae)+1))) ?_
     rw[<-hsk]
     generalize ks.set t (ek,eb,iT ez r (.int .i64 ((n1:ae)+1)))=ks2 at*
     refine xS ?_
     refine tq [3,5,7,12,13,14,19,20,21] [4] (ι:=aA) (λ_ q_=>q_) (λ_ q_=>mp Rec.v OB (if x.1.jK=aP then iT oz r (.int .i64 (m1+1))else oz)::q_) ?f3 ?m3
     case m3=>
      intro KK dF;refine xB ?_ ?_<;>intro ho
      ·have ho:x.1.jK=aP:=ho;rw[ao ho]at dF;refine xS ?_;refine fG (sG [0,1,2,3,4]) [bx C 346 [.slice aa cj.all.length ac,.map (aN KB),.map (aN OB),.int .u64 cj.top.toNat],bx b7 151 r.cs] U ?_;refine xL [0,1,2,3,4] ?_;refine xS ?_;refine eN U U U U U ?_ ?_
       ·refine sQ (zv:=.int .i64 0) r oe U U U U (λw _=>ze.run (P:=be) (t:=3) ax w) ?_;rw[qM];exact bM3
       ·refine EV r oe U U U U λjj st H2=>xS ?_;refine eN U U U U U ?_ ?_
        ·refine BU (zv:=.int .i64 0) r oe U U U U (λw=>ze.run (P:=be) (t:=3) ax w) ?_;rw[oC,ao U,dz];rw[qM]at H2 ⊢;exact bM4
        ·refine xS ?_;refine BU (zv:=.int .i64 0) r oe U U U U (λw=>ze.run (P:=be) (t:=3) ax w) ?_;rw[oC,ao U,dz];rw[qM]at H2 ⊢;exact bM5
      ·have ho:¬x.1.jK=aP:=bQ;rw[aj ho]at dF;exact JH
     case f3=>
      intro _;have htp:(if((cj.top.toNat:ab):ae)<(r.fQ.toNat:ab)then((r.fQ.toNat:ab):ae)else(cj.top.toNat:ab))=(((cj.add x.1.jK r).top.toNat:ab):ae):=by
       grind [yV.add,UInt64.lt_iff_toNat_lt]
      generalize(if x.1.jK=aP then iT oz r (.int .i64 (m1+1))else oz)=oz2 at*;refine xS ?_;refine fG (sG [0,1,2,3,4,5,6,7]) [bx C 346 [.slice aa cj.all.length ac,.map (aN KB),.map (aN OB),.int .u64 cj.top.toNat],bx b7 151 r.cs] U ?_;refine xL [0,1,2,3,4,5,6,7] ?_;refine xS ?_;rw[htp];refine fU 6 [0,5] ?_;refine xL [0,1,2,3,4,5] ?_;refine xZ ?_;intro b79;refine fH (r) U U U U bw U cE cE cE cE cE bw λa80 c80=>xS ?_;have uB:cj.all++[r]=(cj.add x.1.jK r).all:=U;rw[uB];refine X.dE (fE (MK a80 c80) _) ?_;refine gr qD C (cj.add x.1.jK r) U ⟨a80,c80,KB,OB,ks2,oz2⟩ ?_;exact X.W (rb ⟨(j+1,cj.add x.1.jK r),by omega,XC⟩ bQ)
  ·have PG:j=x.1.sL.length:=bQ;subst PG;rw[bV,<-hct]at hcj;subst hcj;exact TY
 ·have gj:i=q.length:=bQ;subst gj;rw[bI dW];refine xS ?_;exact X.ret VH (.tmps U) ⟨_,⟨C,U,U⟩,bA⟩
def yV.keeps(c:yV)(r:Rec):ai:=decide (r∈c.jK)&&(r.kind==1||decide (1<(uniq (pP c.all r.key)).length)||r.fQ==c.top)
theorem ai4(C:ab)(c:yV)(r:Rec):TR be G 334 #[bu C,.agg (Rec.cs r).toArray] [qD C c] (dC λv B=>v=.bool (c.keeps r)/\B=[qD C c]):=by
 refine bZ U λb O hb hG=>?_
 have hk:c.keeps r=(decide (r∈c.jK)&&(r.kind==1||decide (1<(uniq (pP c.all r.key)).length)||r.fQ==c.top)):=U
 refine X.l8 qD C U λI=>?_
 dsimp only[bh,bk,bj]
 refine mF λhI=>?_
 obtain⟨aa,ac,KB,OB,ks,oz⟩:=I
 dsimp only[yV.cs]at hI ⊢
 have tr:=Lu (ks:=ks) r.key
 obtain⟨m1,qM,KC,hm3⟩:=hI.oz.get r
 have qM:(gM oz r).getD (.int .i64 0)=.int .i64 m1:=qM
 refine xP ?_
 intro b3
 by_cases ho:r∈c.jK
 ·have hm4:0<m1:=hm3.2 ho
  by_cases hki:r.kind=1
  ·refine fU 32 [1,3,4,0] ?_
   apply dB [0,1,2,3,4,5,6,7,8,9,10,11,12,13,14,15,16,17,18,19,20,21,22,23,24,25,26,27,28,29,30,31] U U U
   ·intro p hp
    refine xS ?_
    refine sQ (zv:=.int .i64 0) r oe U U U U (λw _=>ze.run (P:=be) (t:=3) ax w) ?_
    rw[qM]
    refine xS ?_
    refine bD 12 aP U (by simp;omega) (xS ?_)
    refine bD 16 aP U (by simp[hki]) (xS ?_)
    refine bD 27 aP U (by simp) (xS ?_)
    exact hp
   ·rfl
   ·rfl
   refine xS ?_
   refine X.dE (fE hI _) ?_
   refine gr qD C c U ⟨aa,ac,KB,OB,ks,oz⟩ ?_
   exact cT hb (.tmps U) ⟨by grind [mv],U⟩
  ·rcases tr with⟨hg,hkn⟩|⟨t,ht,hg,hkn⟩
   ·have hlen:(uniq (pP c.all r.key)).length=0:=by rw[DL hI hkn];rfl
    by_cases htp:r.fQ=c.top
    ·refine fU 32 [1,3,4,0] ?_
     apply dB [0,1,2,3,4,5,6,7,8,9,10,11,12,13,14,15,16,17,18,19,20,21,22,23,24,25,26,27,28,29,30,31] U U U
     ·intro p hp
      refine xS ?_
      refine sQ (zv:=.int .i64 0) r oe U U U U (λw _=>ze.run (P:=be) (t:=3) ax w) ?_
      rw[qM]
      refine xS ?_
      refine bD 12 aP U (by simp;omega) (xS ?_)
      refine bD 16 aQ U (by simp[hki]) (xS ?_)
      refine tP (zv:=.map aO) r.key U U U U ?_
      rw[hg,Option.getD_none]
      refine xS ?_
      refine ax0 U U U (xS ?_)
      refine bD 27 aQ U (by simp) (xS ?_)
      exact hp
     ·rfl
     ·rfl
     refine xS ?_
     refine X.dE (fE hI _) ?_
     refine gr qD C c U ⟨aa,ac,KB,OB,ks,oz⟩ ?_
     exact cT hb (.tmps U) ⟨by grind [mv],U⟩
    ·refine fU 32 [1,3,4,0] ?_
     apply dB [0,1,2,3,4,5,6,7,8,9,10,11,12,13,14,15,16,17,18,19,20,21,22,23,24,25,26,27,28,29,30,31] U U U
     ·intro p hp
      refine xS ?_
      refine sQ (zv:=.int .i64 0) r oe U U U U (λw _=>ze.run (P:=be) (t:=3) ax w) ?_
      rw[qM]
      refine xS ?_
      refine bD 12 aP U (by simp;omega) (xS ?_)
      refine bD 16 aQ U (by simp[hki]) (xS ?_)
      refine tP (zv:=.map aO) r.key U U U U ?_
      rw[hg,Option.getD_none]
      refine xS ?_
      refine ax0 U U U (xS ?_)
      refine bD 27 aQ U (by simp) (xS ?_)
      exact hp
     ·rfl
     ·rfl
     refine xS ?_
     have htn:(((r.fQ.toNat:ab):ae)==(c.top.toNat:ab))=aQ:=by
      grind [iX]
     have hkb:(r.kind==1)=aQ:=by grind
     have htb:(r.fQ==c.top)=aQ:=by grind
     refine X.dE (fE hI _) ?_
     refine gr qD C c U ⟨aa,ac,KB,OB,ks,oz⟩ ?_
     exact cT hb (.tmps U) ⟨by grind [mv],U⟩
   ·have XC:=hI.ks _ (bE ht)
    rw[hkn]at XC
    have hlen:(uniq (pP c.all r.key)).length=ks[t].2.2.length:=by rw[<-XC.keys,bF]
    have yF:ks.set t ks[t]=ks:=List.set_getElem_self ..
    refine X6 Wm ks t ht ?_
    generalize ks[t]=e at*
    obtain⟨ek,eb,ez⟩:=e
    dsimp only[Wm]at*
    by_cases hl:1<ez.length
    ·refine fU 32 [3,5,6,2,0] ?_
     apply dB [0,1,2,3,4,5,6,7,8,9,10,11,12,13,14,15,16,17,18,19,20,21,22,23,24,25,26,27,28,29,30,31] U U U
     ·intro p hp
      refine xS ?_
      refine sQ (zv:=.int .i64 0) r oe U U U U (λw _=>ze.run (P:=be) (t:=3) ax w) ?_
      rw[qM]
      refine xS ?_
      refine bD 12 aP U (by simp;omega) (xS ?_)
      refine bD 16 aQ U (by simp[hki]) (xS ?_)
      refine tP (zv:=.map aO) r.key U U U U ?_
      rw[hg,dz]
      refine xS ?_
      refine P4 U U U (xS ?_)
      refine bD 27 aP U (by simp;omega) (xS ?_)
      exact hp
     ·rfl
     ·rfl
     refine xS ?_
     refine UH Wm ks t ht (ek,eb,ez) ?_
     rw[yF]
     refine X.dE (fE hI _) ?_
     refine gr qD C c U ⟨aa,ac,KB,OB,ks,oz⟩ ?_
     exact cT hb (.tmps U) ⟨by grind [mv],U⟩
    ·have qx:¬(1:ae)<ez.length:=by omega
     by_cases htp:r.fQ=c.top
     ·refine fU 32 [3,5,6,2,0] ?_
      apply dB [0,1,2,3,4,5,6,7,8,9,10,11,12,13,14,15,16,17,18,19,20,21,22,23,24,25,26,27,28,29,30,31] U U U
      ·intro p hp
       refine xS ?_
       refine sQ (zv:=.int .i64 0) r oe U U U U (λw _=>ze.run (P:=be) (t:=3) ax w) ?_
       rw[qM]
       refine xS ?_
       refine bD 12 aP U (by simp;omega) (xS ?_)
       refine bD 16 aQ U (by simp[hki]) (xS ?_)
       refine tP (zv:=.map aO) r.key U U U U ?_
       rw[hg,dz]
       refine xS ?_
       refine P4 U U U (xS ?_)
       refine bD 27 aQ U (by simp;omega) (xS ?_)
       exact hp
      ·rfl
      ·rfl
      refine xS ?_
      refine UH Wm ks t ht (ek,eb,ez) ?_
      rw[yF]
      refine X.dE (fE hI _) ?_
      refine gr qD C c U ⟨aa,ac,KB,OB,ks,oz⟩ ?_
      exact cT hb (.tmps U) ⟨by grind [mv],U⟩
     ·refine fU 32 [3,5,6,2,0] ?_
      apply dB [0,1,2,3,4,5,6,7,8,9,10,11,12,13,14,15,16,17,18,19,20,21,22,23,24,25,26,27,28,29,30,31] U U U
      ·intro p hp
       refine xS ?_
       refine sQ (zv:=.int .i64 0) r oe U U U U (λw _=>ze.run (P:=be) (t:=3) ax w) ?_
       rw[qM]
       refine xS ?_
       refine bD 12 aP U (by simp;omega) (xS ?_)
       refine bD 16 aQ U (by simp[hki]) (xS ?_)
       refine tP (zv:=.map aO) r.key U U U U ?_
       rw[hg,dz]
       refine xS ?_
       refine P4 U U U (xS ?_)
       refine bD 27 aQ U (by simp;omega) (xS ?_)
       exact hp
      ·rfl
      ·rfl
      refine xS ?_
      have htn:(((r.fQ.toNat:ab):ae)==(c.top.toNat:ab))=aQ:=by
       grind [iX]
      have hkb:(r.kind==1)=aQ:=by grind
      have htb:(r.fQ==c.top)=aQ:=by grind
      refine UH Wm ks t ht (ek,eb,ez) ?_
      rw[yF]
      refine X.dE (fE hI _) ?_
      refine gr qD C c U ⟨aa,ac,KB,OB,ks,oz⟩ ?_
      exact cT hb (.tmps U) ⟨by grind [mv],U⟩
 ·have hm4:¬0<m1:=by grind
  refine fU 32 [1,3,4,0] ?_
  apply dB [0,1,2,3,4,5,6,7,8,9,10,11,12,13,14,15,16,17,18,19,20,21,22,23,24,25,26,27,28,29,30,31] U U U
  ·intro p hp
   refine xS ?_
   refine sQ (zv:=.int .i64 0) r oe U U U U (λw _=>ze.run (P:=be) (t:=3) ax w) ?_
   rw[qM]
   refine xS ?_
   refine bD 12 aQ U (by simp;omega) (xS ?_)
   exact hp
  ·rfl
  ·rfl
  refine xS ?_
  refine X.dE (fE hI _) ?_
  refine gr qD C c U ⟨aa,ac,KB,OB,ks,oz⟩ ?_
  exact cT hb (.tmps U) ⟨by grind [mv],U⟩
end
end Go.Proofs
