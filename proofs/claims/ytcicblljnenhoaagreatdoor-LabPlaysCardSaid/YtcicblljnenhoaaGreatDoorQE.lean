/- A part of the proof of LabPlays. -/
import Derived.Test.YtcicblljnenhoaaGreatDoorQD
open Bool renaming false->aQ,false_eq_true->di,true->aP
open Go renaming Addr->aX,Ending->aZ,Frame->bc,Oper->aW,Operand->aY,Program->aT,Value->aR,World->aV,execOp->aU
open Go.Instr renaming checkKey->iI
open Go.IntKind renaming bits->iM,i64->eu,signed->jX,u64->ee,u8->dS,wrap->jm
open Go.Lib renaming countByte->cZ,decDigits->bB,fields->fy,indexByte->dT,itoa->ib,itoa_length_le->eJ,nDigits->gJ
open List renaming Perm.cons->iJ,Perm.swap->fM,all_eq_true->gi,append_assoc->cB,append_nil->bj,cons_append->bh,drop_eq_getElem_cons->bP,drop_of_length_le->cx,ext_getElem?->fq,filterMap_cons->fZ,findIdx?_eq_some_iff_getElem->cA,flatMap_cons->ei,foldl_cons->eD,getElem?_eq_getElem->bX,getElem?_map->eX,getElem_map->gG,getElem_mem->bE,length->eP,length_append->bK,length_cons->bL,length_filter_le->eF,length_map->bF,length_nil->dU,length_pos_iff->gL,length_set->fJ,length_take->dG,map_append->dx,map_congr_left->cY,map_cons->bN,map_map->dK,map_nil->jo,map_set->fL,mem_append->du,mem_cons->cW,mem_filter->eM,mem_map->cu,mem_singleton->cK,nil_append->bk,nodup_append->fN,nodup_cons->gy,perm_append_comm->cH,perm_middle->gF,replicate->cQ,sum_cons->fS,take_add_one->cg,take_append_drop->dV,take_length->bV,take_of_length_le->bI,take_succ_eq_append_getElem->dO
open Nat renaming add_mul->ic,blt->bM,le_add_right->bW,le_of_ble_eq_true->bH,le_refl->bz,le_succ->iz,le_trans->bo,mul_le_mul_right->eB,zero_add->bT,zero_le->bp
open Option renaming getD_some->dz,map_eq_some_iff->cz,map_some->cO,none->aO,some->aN,some.injEq->gR
open Go.Sem renaming run->gz
open Go.Proofs.Tryz renaming prog->be,underlying3->gE,underlying9->gD
open UInt32 renaming toNat_inj->fk
open UInt64 renaming ofNat->gQ,toNat_inj->iX
open UInt8 renaming ofNat->cV
open Go.Value renaming agg->iD,int->gf
open Go.World renaming cell?->gl
open _root_ renaming Array->ar,Bool->ai,Except->aB,Int->ae,List->Y,Nat->ab,Option->ah,String->aC,UInt32->av,UInt64->az,UInt8->au,Unit->aA,absurd->aD,congrArg->aH,decide_eq_false->aM,decide_eq_true->aK,if_false->aI,if_neg->aj,if_pos->ao,inferInstance->ax
set_option linter.all false
set_option maxHeartbeats 4000000
namespace Go.Proofs
open Go.Sl
set_option maxRecDepth 8000
section
variable{L:ab}{nm:Bs}{s:o9}(l:Y ca)(jK:Y o9)(size:ae)(G:dA)(M C:ab)(c:yV)(a:ah aX)(n:ab)
instance(x:Bs×ab×RV):Qk (Wm x):=inferInstanceAs (Qk (mp _ _ _))
instance(ks:Y (Bs×ab×RV)):Qk (dZ (ks.map Wm)):=ED ⟨λp hp=>by obtain⟨x,_,rfl⟩:=cu.1 hp;infer_instance⟩
instance(C:ab)(c:yV):Qk (qD C c):=bl9 λi=>ax
theorem ai5(b1 C:ab)(c:yV)(r:Rec):TR be G 333 (([]:Y aR)++[iD (Rec.cs r).toArray]++[bu b1]).toArray [dZ [bx b1 339 [bu C],qD C c]] (dC λv B=>v=.bool (!c.keeps r)/\B=[dZ [bx b1 339 [bu C],qD C c]]):=by
 refine bZ U λb O hb hG=>?_;refine mc [bx b1 339 [bu C],qD C c] (xD ?_);refine xP ?_;intro b2;refine cP (ai4 G C c r) ?_;rintro v B ⟨rfl,rfl⟩;refine xD ?_;refine hU [bx b1 339 [bu C],qD C c] ?_;exact xR
def yV.kept(c:yV):Y Rec:=lE (λx y=>decide (cfR x y<0)) ((nW c.all).filter λr=> !(!c.keeps r))
theorem aJ4(hl:(nW c.all).length<=1000000000):TR be G 223 #[bu C] [qD C c] (dC λv B=>∃a m,v=.slice a c.kept.length m/\B=[own 151 4 a c.kept.length m (c.kept.flatMap Rec.cs),qD C c]):=by
 refine dH U λb O hb hG=>?_;have Ty:c.kept=lE (λx y=>decide (cfR x y<0)) ((nW c.all).filter λr=> !(!c.keeps r)):=U;refine xP ?_;intro b1;refine X.l8 qD C U λI=>?_;dsimp only[bh,bk,bj];refine mF λhI=>?_;have sF:=hI.len;dsimp only[yV.cs];refine xS ?_;refine cP (nG (e:=151) (c:=I.ac) (aI4 G I.aa _ I.ac c.all U sF) (by rintro v B ⟨_,_,_,rfl⟩;infer_instance) U (λ_=>rfl)) ?_;rintro v B ⟨_,⟨a2,c2,rfl,rfl⟩,rfl⟩;dsimp only[bh,bk,bj];refine X.dE (fE hI _) ?_;refine gr qD C c U I (xS ?_);refine hU [bx b1 339 [bu C],qD C c] ?_;refine xH (ah8 G 333 [bu b1] [bx b1 339 [bu C],qD C c] (hA:=⟨λp hp=>by rw[cK.1 hp];exact ED ax⟩) (λr=> !c.keeps r) a2 _ c2 (nW c.all) U bw (λx _=>ai5 G b1 C c x)) ?_;have nC:((nW c.all).filter λr=> !(!c.keeps r)).length<=1000000000:=bo (eF _ _) hl;generalize(nW c.all).filter (λr=> !(!c.keeps r))=F at*;refine xH (SR.ua G cfR 338 (λx y=>bt6 G x y) a2 _ c2 F U bw) ?_;refine mc [bx b1 339 [bu C],qD C c] (xD ?_);refine X.ret hb (.tmps U) ⟨_,⟨a2,c2,by rw[Ty,kX];rfl,U⟩,?_⟩;rw[Ty,kX];exact bA
def JI(out:Y Bs):Bs:=out.getD (out.length - 1) []
def qS(size:ae)(out:Y Bs)(r:Rec):Y Bs:=
 if dD (gv r)≠0 then out
 else if out.length=0\/((JI out).length+(oA (gv r)).length:ae)>size then out++[oA (gv r)]
 else out.set (out.length - 1) (JI out++oA (gv r))
def q8(l:Y Rec)(size:ae):Y Bs:=l.foldl (qS size) []
abbrev bsE(z:WB Bs):Y aR:=[.slice z.2.1 z.1.length z.2.2]
abbrev bsA(z:WB Bs):bG:=own 5 1 z.2.1 z.1.length z.2.2 (z.1.map gT)
theorem RX(l:Y Rec)(size:ae)(i:ab)(h:i<l.length):q8 (l.take (i+1)) size=qS size (q8 (l.take i) size) l[i]:=by
 grind [q8,cg]
theorem aJ6(l:Y Bs)(i:ab)(h:i<l.length)(y:Bs):((l.set i y).map eP).sum+l[i].length=(l.map eP).sum+y.length:=by
 induction l generalizing i with
 |nil=>cases h
 |cons x r ih=>
  cases i<;>grind
theorem OC{out:Y Bs}(h:out.length≠0):JI out=out[out.length - 1]' bw:=by
 grind [JI]
theorem Wp(out:Y Bs)(r:Rec):(qS size out r).length<=out.length+1/\((qS size out r).map eP).sum<=(out.map eP).sum+6100:=by
 grind [qS,oB,aJ6,OC]
theorem G9(l:Y Rec):(q8 l size).length<=l.length/\((q8 l size).map eP).sum<=6100*l.length:=by
 have key:∀(l:Y Rec) (out:Y Bs),(l.foldl (qS size) out).length<=out.length+l.length/\((l.foldl (qS size) out).map eP).sum<=(out.map eP).sum+6100*l.length:=by
  intro l;induction l<;>grind [Wp]
 grind [q8]
theorem aJ7{l:Y Bs}{x:Bs}(h:x∈l):x.length<=(l.map eP).sum:=by
 induction l<;>grind
theorem Wq(c:ab)(l:Y Rec)(size:ae)(hn:l.length=n)(hs:n<=1000000000):
 TR be G 226 #[.slice a n c,.int .i64 size] [dp (cy Rec.cs) 4 a l] (dC λv B=>∃a5 c5,∃Z:Y (WB Bs),Z.map (·.1)=q8 l size/\v=.slice a5 Z.length c5/\B=[own 55 1 a5 Z.length c5 (Z.flatMap bsE),dZ (Z.map bsA)]):=by
 subst hn
 refine bZ U λb O hb hG=>xS ?_
 refine X.dE (fh 55 1 _) ?_
 refine hU ([]:Y bG) ?_
 refine fR [1,11] [1,0] (ι:={z:ab×(ah aX×ab)×Y (WB Bs) // z.1<=l.length/\z.2.2.map (·.1)=q8 (l.take z.1) size}) (λz q_=>(5,.slice z.1.2.1.1 z.1.2.2.length z.1.2.1.2)::(12,bR l.length)::(13,bR z.1.1)::q_) (λz q_=>own 55 1 z.1.2.1.1 z.1.2.2.length z.1.2.1.2 (z.1.2.2.flatMap bsE)::dZ (z.1.2.2.map bsA)::q_) (λz=>l.length - z.1.1) ⟨(0,(aO,0),[]),bp _,U⟩ ?_
 rintro⟨⟨i,⟨a5,c5⟩,Z⟩,hi,hZ⟩ ih
 dsimp only at hi hZ ih ⊢
 have hpo:=G9 size (l.take i)
 rw[<-hZ,bF,dG]at hpo
 refine xB ?_ ?_<;>intro h
 ·have hi:i<l.length:=bQ;have ir:=RX l size i hi;rw[<-hZ]at ir;refine xS ?_;refine dJ U U U U U hi U λbl o=>?_;generalize l[i]=r at*;refine xS ?_;refine eT U U U U  ?_;refine xA ?_;intro b7;refine cP (Ce G (gv r)) ?_;unfold qS at ir;rintro v B (⟨he,a8,c8,rfl,rfl⟩|⟨he,rfl,rfl⟩)
  ·rw[aj Ws]at ir;have Ia:=oB (gv r) he;generalize oA (gv r)=e at*;refine xD ?_;refine yT 30 (Z.length=0) (Z.length≠0) ?_ ?_<;>intro h2
   ·rw[ao (.inl bQ)]at ir;exact bM8
   ·obtain⟨k,hk⟩:∃k,Z.length=k+1:=⟨Z.length - 1,by omega⟩;have hj:k<Z.length:=bw;obtain⟨z,hz⟩:∃z,z=Z[k]:=⟨_,U⟩;have hlb:JI (Z.map (·.1))=z.1:=by
     grind [OC]
    have D5:z.1.length<=6100000000000:=by
     have:=aJ7 (cu.2 ⟨_,bE hj,U⟩:Z[k].1∈Z.map (·.1))
     grind
    rw[hlb,bF,hk,Nat.add_sub_cancel]at ir;refine gZ a5 bw λg hg=>?_;subst hg;refine xS ?_;refine eA (j:=k) U U U U bw bw (xS ?_);refine tg (cC:=bsE) (l:=Z) (v:=.slice z.2.1 z.1.length z.2.2) k 0 U U U U (λ_=>rfl) (bT _) hj (by rw[<-hz];rfl)  ?_;refine yB ((z.1.length+e.length:ae)>size) (¬(z.1.length+e.length:ae)>size) ?_ ?_<;>intro h3
    ·rw[ao (.inr h3)]at ir;exact bM8
    ·rw[aj (λh=>h.elim bw h3)]at ir;refine X6 bsA Z k hj ?_;rw[<-hz];refine jz a8 (l:=e) U λ_=>xS ?_;refine eA (j:=k) U U U U bw bw (xS ?_);refine tg (cC:=bsE) (l:=Z) (v:=.slice z.2.1 z.1.length z.2.2) k 0 U U U U (λ_=>rfl) (bT _) hj (by rw[<-hz];rfl) (xS ?_);refine jA U U U U U bw λa53 c53=>xS ?_;refine eA (j:=k) U U U U bw bw (xS ?_);refine E3 (cC:=bsE) (l:=Z) k 0 ((z.1++e,a53,c53):WB Bs) (λ_=>rfl) U U U U (λ_=>rfl) (bT _) hj eK U U ?_;refine UH bsA Z k hj ((z.1++e,a53,c53):WB Bs) ?_;have qN:(Z.set k ((z.1++e,a53,c53):WB Bs)).length=Z.length:=fJ ..;have qK:(Z.set k ((z.1++e,a53,c53):WB Bs)).map (·.1)=q8 (l.take (i+1)) size:=by rw[ir,fL]
     rw[<-qN];generalize Z.set k ((z.1++e,a53,c53):WB Bs)=Z2 at*;refine xS ?_;exact X.W (ih ⟨(i+1,(aN ⟨g,0,aO⟩,c5),Z2),by omega,qK⟩ bQ)
  ·rw[ao he]at ir;refine xD ?_;refine bD 24 aP U Ws (xS ?_);exact X.W (ih ⟨(i+1,(a5,c5),Z),by omega,ir.symm⟩ bQ)
 ·have gj:i=l.length:=bQ;subst gj;rw[bV]at hZ;refine xS ?_;exact cT hb (.tmps U) ⟨a5,c5,Z,hZ,U,U⟩
abbrev Lv(b:Bs):Bs:=b
theorem bn4(x:WB Bs)(F:Y bG):VS (bsA x::F) (eQ Lv [x]::F):=λO w hs=>by
 have hc:=I9 hs (bS.refl _);have h0:bsA x=own 5 1 x.2.1 x.1.length x.2.2 (x.1.flatMap λx=>[gT x]):=by grind [lP]
 exact bL0
theorem Yt:∀(q:Y (WB Bs)) (F:Y bG),VS (q.map bsA++F) (eQ Lv q::F)
 |[],F=>λO w hs=>hs.dE λ_ o ir=>⟨gI,o,ef _,dQ _,.refl _,λ_ _ x hx=>vE,ir⟩
 |x::q,F=>λO w hs=>by
  have h1:=bn4 x (q.map bsA++F) O w hs;have h2:=h1.dE (ew (b:=q.map bsA++(eQ Lv [x]::F)) (gF.symm));have h3:=Yt q _ O w h2;exact a'9
theorem aw7(q:Y (WB Bs)){b:bc}{O:de}{k:Kt}{E:Env}{H F:Y bG}{R:aZ->Y bG->Prop}{cc:ah (ar aW×Y aW)}[hf:FP H (dZ (q.map bsA)) F]
 (h:X be b O cc k E (eQ Lv q::F) R):X be b O cc k E H R:=
 X.dE (hf.out.trans (iR _ _)) (yK (Yt q F) h)
structure MM where
 steps:Y fY
 names:Y Bs
structure MMI where
 ss:Y (WB fY)
 sa:ah aX
 sc:ab
 na:ah aX
 nc:ab
abbrev Ee(k:Bs):Y aR:=[bn k]
abbrev mmF(M:ab)(m:MM)(p:MMI):Y bG:=[bx M 355 [.slice p.sa p.ss.length p.sc,.slice p.na m.names.length p.nc],own 266 5 p.sa p.ss.length p.sc (p.ss.flatMap eG),eQ fY.data p.ss,own 9 1 p.na m.names.length p.nc (m.names.flatMap Ee),pu (p.ss.map (·.1)=m.steps)]
def JJ(M:ab)(m:MM):bG:=ex (mmF M m)
structure MM.ok(m:MM)(L:ab):Prop where
 steps:m.steps.length<=L
 names:m.names.length<=L
 name:∀s∈m.names,s.length<=1000000
theorem MM.ok.mono{m:MM}{L':ab}(h:m.ok L)(hl:L<=L'):m.ok L':=⟨bo h.steps hl,bo h.names hl,h.name⟩
def MM.ahead(m:MM)(nm d:Bs):MM:=⟨m.steps++[⟨2,nm++jl,[],d,0⟩,⟨3,nm++jl,[],[],0⟩,⟨4,nm++jl,nm,[],0⟩],m.names++[nm]⟩
theorem sO{m:MM}(h:m.ok L)(d:Bs)(hn:nm.length<=1000000):(m.ahead nm d).ok (L+3):=by
 refine⟨?_,?_,?_⟩
 ·show(m.steps++_).length<=_;have:=h.steps;simp;omega
 ·show(m.names++_).length<=_;have:=h.names;simp;omega
 ·intro s hs
  have hs:s∈m.names++[nm]:=hs
  rcases du.1 hs with hs|hs
  ·exact h.name s hs
  grind
theorem yk(L:ab)(m:MM)(name data:Bs)(a:ah aX)(n c:ab)(hn:data.length=n)(hc:n<=c)(h0:a=aO->n=0/\c=0)(hm:m.ok L)(hL:L<=890000000000)(vP:name.length<=1000000):
 TR be G 340 #[bu M,bn name,.slice a n c] [JJ M m,dp RB 1 a data] (dC λv B=>v=.tuple #[]/\B=[JJ M (m.ahead name data)]):=by
 subst hn
 refine jy U λb O hb hG=>?_
 have Ik:=hm.steps
 have hmn:=hm.names
 have had:m.ahead name data=⟨m.steps++[⟨2,name++jl,[],data,0⟩,⟨3,name++jl,[],[],0⟩,⟨4,name++jl,name,[],0⟩],m.names++[name]⟩:=U
 refine xJ (TT G name bw) ?_
 refine X.l8 JJ M U λp=>?_
 obtain⟨ss,sa,sc,na,nc⟩:=p
 dsimp only[bh,bk,bj]
 refine mF λhp=>?_
 have qN:ss.length<=890000000000:=bQ
 obtain⟨w1,MS⟩:∃w:WB fY,w=(⟨2,name++jl,[],data,0⟩,a,c):=⟨_,U⟩
 obtain⟨w2,Rl⟩:∃w:WB fY,w=(⟨3,name++jl,[],[],0⟩,aO,0):=⟨_,U⟩
 obtain⟨w3,hw3⟩:∃w:WB fY,w=(⟨4,name++jl,name,[],0⟩,aO,0):=⟨_,U⟩
 refine Mr fY.data ⟨2,name++jl,[],data,0⟩ a c hc h0 ?_
 rw[<-MS]
 refine yL fY.data ⟨3,name++jl,[],[],0⟩ U ?_
 rw[<-Rl]
 refine yL fY.data ⟨4,name++jl,name,[],0⟩ U ?_
 rw[<-hw3]
 refine Ak (data:=fY.data) [w2] [w3] ?_
 refine Ak (data:=fY.data) [w1] ([w2]++[w3]) ?_
 refine Ak (data:=fY.data) ss ([w1]++([w2]++[w3])) ?_
 have hq:(ss++([w1]++([w2]++[w3]))).map (·.1)=m.steps++[⟨2,name++jl,[],data,0⟩,⟨3,name++jl,[],[],0⟩,⟨4,name++jl,name,[],0⟩]:=by
  grind
 have hx:ss.flatMap eG++(eG w1++eG w2++eG w3)=(ss++([w1]++([w2]++[w3]))).flatMap eG:=by
  grind
 rw[MS,Rl,hw3]at hx
 have XI:ss.length+3=(ss++([w1]++([w2]++[w3]))).length:=dW
 rw[<-MS,<-Rl,<-hw3]at hx
 generalize ss++([w1]++([w2]++[w3]))=s2 at*
 rw[MS,Rl,hw3]at hx
 clear MS Rl hw3
 refine xZ ?_
 intro b22
 refine uy U U U U cE cE cE cE bw λa23 c23=>?_
 refine Ys (cC:=eG) a23 s2 hx XI ?_
 rw[XI]
 refine xZ ?_
 intro b32
 refine fH (name) U U U U bw U cE cE cE cE cE bw λa33 c33=>xS ?_
 rw[had]
 refine X.dE (fE hq _) ?_
 refine gr JJ M ⟨m.steps++[⟨2,name++jl,[],data,0⟩,⟨3,name++jl,[],[],0⟩,⟨4,name++jl,name,[],0⟩],m.names++[name]⟩ U ⟨s2,a23,c23,a33,c33⟩ ?_
 exact xF
theorem RY{d:Bs}(h:(hintOf d).2≠0):(hintOf d).1=[]:=by
 grind [hintOf]
def MM.fresh(m:MM):Bs:=(gU 1 (im 1 m.names).1).1
def MM.writes(m:MM)(d:Bs):MM:=(m.ahead m.fresh d).ahead (gp m.fresh).1 (hintOf d).1
theorem RZ(L:ab)(m:MM)(data:Bs)(a:ah aX)(n c:ab)(hn:data.length=n)(hc:n<=c)(h0:a=aO->n=0/\c=0)(hm:m.ok L)(hL:L<=880000000000)(hd:n<=1000000000):
 TR be GG 230 #[bu M,.slice a n c] [JJ M m,dp RB 1 a data] (dC λv B=>v=.tuple #[]/\B=[JJ M (m.writes data)]):=by
 subst hn
 refine bZ U λb O hb hG=>?_
 have hmn:=hm.names
 have hmnm:=hm.name
 have nC:m.fresh.length<=1000:=se _ _
 have tJ:=zx m.fresh
 have hfr:(gU 1 (im 1 m.names).1).1=m.fresh:=U
 refine X.l8 JJ M U λp=>?_
 obtain⟨ss,sa,sc,na,nc⟩:=p
 dsimp only[bh,bk,bj]
 refine mF λhp=>xS ?_
 refine cM hG (nG (e:=9) (c:=nc) (Gj 1 na _ nc m.names U bw (λs hs=>bo (hmnm s hs) bw)) bt9 U (λ_=>rfl)) U U U bS.es ?_
 rintro v B ⟨_,⟨rfl,rfl⟩,rfl⟩
 dsimp only[bh,bk,bj]
 refine X.dE (fE hp _) ?_
 refine gr JJ M m U ⟨ss,sa,sc,na,nc⟩  ?_
 refine xJ (AY 1 (im 1 m.names).1) ?_
 rw[hfr]
 refine xS ?_
 have hwr:m.writes data=(m.ahead m.fresh data).ahead (gp m.fresh).1 (hintOf data).1:=U
 have Xz:=@RY data
 refine cM hG (KW GG a _ c data U hc hd) U U U eC ?_
 generalize hintOf data=W at*
 rintro v B (⟨hw,a8,c8,rfl,rfl⟩|⟨hw,rfl,rfl⟩)
 ·dsimp only[bh,bk,bj];refine nX a8 λh8 _=>?_;refine jz a8 (l:=W.1) U λhc8=>?_;refine xJ (xY m.fresh bw) ?_;refine cM hG (yk GG M L m m.fresh data a _ c U hc h0 hm bw bw) U U U eC ?_;rintro v B ⟨rfl,rfl⟩;refine xD ?_;refine cM hG (yk GG M (L+3) (m.ahead m.fresh data) (gp m.fresh).1 W.1 a8 _ c8 U hc8 h8 (sO hm data bw) bw bw) U U U eC ?_;rintro v B ⟨rfl,rfl⟩;refine xD ?_;rw[<-hwr];exact xF
 ·dsimp only[bh,bk,bj];refine ku au RB 1  ?_;refine xJ (xY m.fresh bw) ?_;refine cM hG (yk GG M L m m.fresh data a _ c U hc h0 hm bw bw) U U U eC ?_;rintro v B ⟨rfl,rfl⟩;refine xD ?_;refine cM hG (yk GG M (L+3) (m.ahead m.fresh data) (gp m.fresh).1 [] aO 0 0 U (bz _) (λ_=>⟨U,U⟩) (sO hm data bw) bw bw) U U U eC ?_;rintro v B ⟨rfl,rfl⟩;refine xD ?_;rw[Xz hw]at hwr;rw[<-hwr];exact xF
def MM.iL(m:MM)(s:o9):MM:=
 if m.names.contains (gp s.jE.name).1=aP then⟨m.steps++[⟨1,(gp s.jE.name).1,[],[],0⟩]++[⟨1,s.jE.name,[],[],0⟩],m.names⟩else⟨m.steps++[⟨1,s.jE.name,[],[],0⟩],m.names⟩
theorem OD(L:ab)(m:MM)(x:px)(hm:m.ok L)(hL:L<=880000000000)(hn:x.1.jE.name.length<=1000000):
 TR be GG 231 #[bu M,.agg (px.cs x).toArray] [JJ M m] (dC λv B=>v=.tuple #[]/\B=[JJ M (m.iL x.1)]):=by
 refine bZ U λb O hb hG=>?_
 have Ik:=hm.steps
 have hmn:=hm.names
 have hmnm:=hm.name
 refine xP ?_
 intro b3
 refine xJ (xY x.1.jE.name bw) ?_
 refine X.l8 JJ M U λp=>?_
 obtain⟨ss,sa,sc,na,nc⟩:=p
 dsimp only[bh,bk,bj]
 refine mF λhp=>?_
 have qN:ss.length<=L:=bQ
 refine xS ?_
 refine cP (nG (e:=9) (c:=nc) (FD GG na _ nc m.names (gp x.1.jE.name).1 U bw) bt9 U (λ_=>rfl)) ?_
 rintro v B ⟨_,⟨rfl,rfl⟩,rfl⟩
 refine xD ?_
 have key:∀(nm:Bs) (ss:Y (WB fY)),(ss++[((⟨1,nm,[],[],0⟩,aO,0):WB fY)]).map (·.1)=ss.map (·.1)++[⟨1,nm,[],[],0⟩]:=bQ
 refine tq [0,3] [1,1,1] (ι:={z:(ah aX×ab)×Y (WB fY) // z.2.length<=L+1/\(⟨z.2.map (·.1)++[⟨1,x.1.jE.name,[],[],0⟩],m.names⟩:MM)=m.iL x.1}) (λz q_=>q_) (λz q_=>bx M 355 [.slice z.1.1.1 z.1.2.length z.1.1.2,.slice na m.names.length nc]::own 266 5 z.1.1.1 z.1.2.length z.1.1.2 (z.1.2.flatMap eG)::eQ fY.data z.1.2::q_) ?fin ?main
 case main=>
  intro KK dF;refine xB ?_ ?_<;>intro h
  ·have h:m.names.contains (gp x.1.jE.name).1=aP:=h;obtain⟨nm,vP⟩:∃nm,nm=(gp x.1.jE.name).1:=⟨_,U⟩;rw[<-vP]at h;have hrm:m.iL x.1=⟨m.steps++[⟨1,nm,[],[],0⟩]++[⟨1,x.1.jE.name,[],[],0⟩],m.names⟩:=by
    grind [MM.iL]
   rw[<-vP];refine xZ ?_;intro b26;refine fH (((⟨1,nm,[],[],0⟩,aO,0):WB fY)) U U U U bw U cE cE cE cE cE bw λa27 c27=>xS ?_;refine yL fY.data ⟨1,nm,[],[],0⟩ U ?_;refine Ak (data:=fY.data) ss [((⟨1,nm,[],[],0⟩,aO,0):WB fY)] ?_;exact X.W (dF ⟨((a27,c27),ss++[((⟨1,nm,[],[],0⟩,aO,0):WB fY)]),by simp;omega,by grind⟩)
  ·have h:¬m.names.contains (gp x.1.jE.name).1=aP:=bQ;have hrm:m.iL x.1=⟨m.steps++[⟨1,x.1.jE.name,[],[],0⟩],m.names⟩:=by
    grind [MM.iL]
   refine xS ?_;exact X.W (dF ⟨((sa,sc),ss),by grind,by rw[hrm,hp]⟩)
 case fin=>
  clear hp qN;rintro⟨⟨⟨sa,sc⟩,ss⟩,qN,hrm⟩;dsimp only at qN hrm ⊢;rw[<-hrm];refine xS ?_;refine fU 9 [0,4] ?_;refine xL [0,1,2,3,4,5,6,7,8] ?_;refine xZ ?_;intro b39;refine fH (((⟨1,x.1.jE.name,[],[],0⟩,aO,0):WB fY)) U U U U bw U cE cE cE cE cE bw λa40 c40=>xS ?_;refine yL fY.data ⟨1,x.1.jE.name,[],[],0⟩ U ?_;refine Ak (data:=fY.data) ss [((⟨1,x.1.jE.name,[],[],0⟩,aO,0):WB fY)] ?_;refine X.dE (fE (key x.1.jE.name ss) _) ?_;refine gr JJ M ⟨ss.map (·.1)++[⟨1,x.1.jE.name,[],[],0⟩],m.names⟩ U ⟨ss++[((⟨1,x.1.jE.name,[],[],0⟩,aO,0):WB fY)],a40,c40,na,nc⟩ ?_;exact xF
theorem bu0(x:px)(a:ah aX)(n c:ab)(ys:Bs)(hn:ys.length=n):
 TR be G 228 #[.agg (px.cs x).toArray,.slice a n c] [dp RB 1 x.2.1.1 x.1.jE.data,dp RB 1 a ys] (dX (.bool (x.1.jE.data==ys))):=by
 refine bZ U λb O hb hG=>?_
 refine xP ?_
 intro b2
 refine xJ (Jt G x.2.1.1 a _ x.2.1.2 n c x.1.jE.data ys U hn) ?_
 exact xR
theorem Wt(c:ab)(q:Y px)(hn:q.length=n)(hs:n<=1000000000000)(a2:ah aX)(m c2:ab)(Z:Y (WB Bs))(hm:Z.length=m):
 TR be G 227 #[.slice a n c,.slice a2 m c2,.func (.func 228) #[] #[]] [dp (cy px.cs) 5 a q,H4 q,dp (cy bsE) 1 a2 Z,eQ Lv Z] (dX (.bool (decide (q.map (λx=>x.1.jE.data)=Z.map (·.1))))):=by
 subst hn hm
 refine jy U λb O hb hG=>?_
 refine xB ?_ ?_<;>intro h
 ·have h:q.length≠Z.length:=bQ;have mf:¬q.map (λx=>x.1.jE.data)=Z.map (·.1):=λhe=>h (by have:=aH eP he;grind);exact VD
 have h:q.length=Z.length:=bQ
 refine xS ?_
 refine fR [1,2,15] [] (ι:={i:ab // i<=q.length/\(q.map (λx=>x.1.jE.data)).take i=(Z.map (·.1)).take i}) (λi q_=>(16,bR q.length)::(17,bR i.1)::q_) (λi q_=>q_) (λi=>q.length - i.1) ⟨0,bp _,U⟩ ?_
 rintro⟨i,hi,hE⟩ ih
 dsimp only at hi hE ih ⊢
 refine xB ?_ ?_<;>intro h2
 ·have hi:i<q.length:=bQ;have Ds:i<Z.length:=bw;have jv:=bE hi;have hmem2:=bE Ds;have hE1:(q.map (λx=>x.1.jE.data)).take (i+1)=(Z.map (·.1)).take i++[q[i].1.jE.data]:=by
   grind [cg]
  have Za:(Z.map (·.1)).take (i+1)=(Z.map (·.1)).take i++[Z[i].1]:=by
   grind [cg]
  refine aS0 q q[i] jv λ_ _=>?_;refine nH (data:=Lv) Z Z[i] hmem2 λ_ _=>xS ?_;refine dJ U U U U U hi U λbl o=>?_;generalize q[i]=x at*;refine xS ?_;refine eT U U U U  ?_;refine xA ?_;intro b8;refine dJ U U U U U Ds U λY' o2=>?_;generalize Z[i]=y at*;refine xS ?_;refine oN (fst:=[]) (us:=[_,_]) (cap:=[]) hG (bu0 G x y.2.1 _ y.2.2 y.1 U) U U U U  ?_;refine yB (¬x.1.jE.data=y.1) (x.1.jE.data=y.1) ?_ ?_<;>intro h3
  ·have mf:¬q.map (λx=>x.1.jE.data)=Z.map (·.1):=by
    grind [List.append_cancel_left]
   exact VD
  ·refine xS ?_;exact X.W (ih ⟨i+1,by omega,by grind⟩ bQ)
 ·have gj:i=q.length:=bQ;subst gj;rw[bI dW,bI fD]at hE;refine xS ?_;exact cT hb (.tmps U) ⟨by simp[mv,hE],U⟩
def JK(l:Y ca):Y o9:=(wS l).filter λs=> !(!s.jK)
def wT(l:Y ca):Y Rec:=(qZ (wS l)).kept
def Ef(l:Y ca)(jK:Y o9)(fresh:Y Bs):MM:=
 if jK.map (λs=>s.jE.data)=fresh then⟨[],[]⟩
 else jK.foldl MM.iL (fresh.foldl MM.writes ⟨[],l.map (·.name)⟩)
def qT(l:Y ca)(size cap:ae):aB ae (Y fY):=
 if(decide (64<=size)&&decide (size<=1048576))=aQ then .error 140
 else if mY l=aQ\/cap<0\/cap>4194304\/(cq l:ae)>cap then .error 110
 else if(uR l (Ef l (JK l) (q8 (wT l) size)).steps:ae)>cap then .error 111
 else .ok (Ef l (JK l) (q8 (wT l) size)).steps
def MgR(r:aB ae (Y fY))(v:aR)(B:Y bG):Prop:=match r with
 |.error e=>v=.tuple #[.agg z183.toArray,.int .i64 e]/\B=[]
 |.ok z=>∃ss:Y (WB fY),∃sa sc fa fn fc,∃t f p:ae,ss.map (·.1)=z/\v=.tuple #[.agg #[.slice sa ss.length sc,.slice fa fn fc,.int .u64 t,.int .i64 f,.int .i64 0,.int .i64 p],.int .i64 0]/\B=[dp (cy eG) 5 sa ss,eQ fY.data ss]
theorem DM(l:Y Rec):(nW l).length<=l.length:=by
 grind [nW,oY,kf,wM,uX]
theorem G':c.kept.length<=c.all.length:=by
 grind [yV.kept,kX,DM]
theorem JL{f:ca}(h:Wj f=aN s):s.jE=f/\s.sL.length<=f.data.length:=by
 grind [Wj,il,nt]
theorem Wu:Bq (wR l)<=cq l:=by
 induction l with
 |nil=>exact bp _
 |cons f r ih=>
  have h1:cq (f::r)=f.data.length+cq r:=NG;unfold wR at ih ⊢;rw[h1,fZ];split
  ·omega
  ·rename_i s hs
   have h2:=(JL hs).2
   grind [Bq]
theorem JM{l l':Y o9}(h:l.Perm l'):Bq l=Bq l':=by
 grind [Bq]
theorem JN:Bq (wS l)<=cq l:=by
 grind [wS,JM,jV,Wu]
theorem Wv{l:Y ca}(h:s∈wS l):s.jE∈l:=by
 have h1:=(jV _ _).mem_iff.1 h;obtain⟨f,hf,h2⟩:=List.mem_filterMap.1 h1;rw[(JL h2).1];exact hf
theorem JO:(wS l).length<=l.length:=by
 unfold wS;rw[kX];exact List.length_filterMap_le _ _
theorem EZ{m:MM}(h:m.ok L)(d:Bs):(m.writes d).ok (L+6):=by
 have h1:=sO h (nm:=m.fresh) d (bo (se _ _) eK);exact sO h1 (nm:=(gp m.fresh).1) (hintOf d).1 (bo (zx _) eK)
theorem DY(m:MM)(d:Bs):jN (m.writes d).steps<=jN m.steps+d.length+50000000000:=by
 have h1:=zw d
 have h2:∀(m:MM) (nm d:Bs),jN (m.ahead nm d).steps=jN m.steps+d.length:=by
  intro m nm d
  show jN (m.steps++_)=_
  grind [jN]
 grind [MM.writes]
theorem DW{m:MM}(h:m.ok L)(s:o9):(m.iL s).ok (L+2):=by
 have h1:=h.steps;unfold MM.iL;split
 ·exact be8
 ·exact be8
theorem BY(m:MM)(s:o9):jN (m.iL s).steps=jN m.steps:=by
 grind [MM.iL,jN]
theorem u0:∀(fresh:Y Bs) (m:MM) (L:ab),m.ok L->(fresh.foldl MM.writes m).ok (L+6*fresh.length)/\jN (fresh.foldl MM.writes m).steps<=jN m.steps+(fresh.map eP).sum+50000000000*fresh.length
 |[],m,L,h=>⟨h,by simp⟩
 |d::r,m,L,h=>by
  have h1:=u0 r (m.writes d) (L+6) (EZ h d);have h2:=DY m d;rw[eD,bL,bN,fS];exact⟨h1.1.mono bw,by have:=h1.2;omega⟩
theorem wU:∀(jK:Y o9) (m:MM) (L:ab),m.ok L->(jK.foldl MM.iL m).ok (L+2*jK.length)/\jN (jK.foldl MM.iL m).steps=jN m.steps
 |[],m,L,h=>⟨h,U⟩
 |s::r,m,L,h=>by
  have h1:=wU r (m.iL s) (L+2) (DW h s);have h2:=BY m s;rw[eD,bL];exact⟨h1.1.mono bw,by rw[h1.2,h2]⟩
theorem T7(fresh:Y Bs)(hn:∀f∈l,f.name.length<=1000000):(Ef l jK fresh).ok (l.length+6*fresh.length+2*jK.length)/\jN (Ef l jK fresh).steps<=(fresh.map eP).sum+50000000000*fresh.length:=by
 unfold Ef;split
 ·exact⟨⟨bp _,bp _,λs hs=>by cases hs⟩,bp _⟩
 ·have h0:MM.ok ⟨[],l.map (·.name)⟩ l.length:=⟨bp _,by simp,λs hs=>by
   grind⟩
  have h1:=u0 fresh _ _ h0
  have h2:=wU jK _ _ h1.1
  grind [jN]
theorem OE{size:ae}(hs:size<=1048576)(l:Y Rec):∀x∈q8 l size,x.length<=1048576:=by
 have key:∀(l:Y Rec) (out:Y Bs),(∀x∈out,x.length<=1048576)->∀x∈l.foldl (qS size) out,x.length<=1048576:=by
  intro l;induction l with
  |nil=>exact λout h=>h
  |cons r t ih=>
   intro out h;rw[eD];refine ih _ ?_;unfold qS;split
   ·exact h
   ·rename_i h1;have hl:=oB (gv r) yz;split
    ·intro x hx;rcases du.1 hx with hx|hx
     ·exact h x hx
     ·rw[cK.1 hx];omega
    ·rename_i h2;intro x hx;rcases List.mem_or_eq_of_mem_set hx with hx|hx
     ·exact h x hx
     ·rw[hx,bK];have:¬((JI out).length+(oA (gv r)).length:ae)>size:=λh=>h2 (.inr h);omega
 exact key l [] (λx hx=>by cases hx)
theorem Ww(cap:ae)(a:ah aX)(n c:ab)(q:Y (WB ca))(hn:q.length=n)(hs:n<=50000000000)(h0:a=aO->n=0/\c=0)(hu:cq (q.map (·.1))<=1000000000000):
 TR be GG 144 #[.slice a n c,.int .i64 size,.int .i64 cap] [dp (cy bY) 2 a q,eQ ca.data q] (dC (MgR (qT (q.map (·.1)) size cap))):=by
 subst hn
 refine jy U λb O hb hG=>?_
 generalize cD:qT (q.map (·.1)) size cap=res
 unfold qT at cD
 refine xA ?_
 intro b6
 refine xB ?_ ?_<;>intro h1
 ·have h1:(decide (64<=size)&&decide (size<=1048576))=aQ:=by simp at h1 ⊢;omega
  rw[ao h1]at cD;exact ai8
 have h1:¬(decide (64<=size)&&decide (size<=1048576))=aQ:=by simp at h1 ⊢;omega
 rw[aj h1]at cD
 refine xS ?_
 refine ku (WB fY) (cy eG) 5 ?_
 refine S3 fY.data ?_
 refine xJ (GB GG a _ c q U aO 0 0 [] U h0 bw (by simp[jN];omega)) ?_
 have hpk0:uR (q.map (·.1)) []=cq (q.map (·.1)):=U
 rw[jo,hpk0]
 refine xS ?_
 have hpa:∀l,rv (q.map (·.1)) (([]:Y (WB fY)).map (·.1))=aN l->cq l<=1000000000000:=by
  intro l hl;unfold rv at hl;split at hl
  ·cases hl;rw[oX];exact hu
  ·cases hl
 refine cM hG (Js GG a _ c q U aO 0 0 [] U h0 bw hu hpa) U U U eC ?_
 clear hpa
 unfold rv
 cases sK:mY (q.map (·.1))with
 |false=>
  rw[ao (.inl sK)]at cD;subst cD;simp only[di,aI];rintro v B ⟨rfl,rfl⟩;refine xD ?_;exact cT hb (.jf U cE (.tmp U .nil)) ⟨U,U⟩
 |true=>
 simp only[if_true]
 rw[show Option.map qX (wJ (q.map (·.1)) (List.map (λx:WB fY=>x.1) []))=aN (qX (q.map (·.1)))from rfl]
 rintro v B ⟨a3,c3,q',_,rfl,rfl⟩
 refine xD ?_
 refine xT 44 ?_ ?_<;>intro h2
 ·have h2:cap<0:=Cc;rw[ao (.inr (.inl h2))]at cD;exact ai8
 have h2:¬cap<0:=Cc
 refine xT 48 ?_ ?_<;>intro h3
 ·have h3:cap>4194304:=M8;rw[ao (.inr (.inr (.inl h3)))]at cD;exact ai8
 have h3:¬cap>4194304:=M8
 refine xB ?_ ?_<;>intro h4
 ·have h4:(cq (q.map (·.1)):ae)>cap:=ZC;rw[ao (.inr (.inr (.inr h4)))]at cD;exact ai8
 have h4:¬(cq (q.map (·.1)):ae)>cap:=ZC
 rw[aj (by simp[sK];omega)]at cD
 obtain⟨eI,j7⟩:=Bn sK
 have ZO:cq (q.map (·.1))<=4194304:=bw
 have ae2:∀x∈q,x.1.name.length<=1000000/\x.1.data.length<=1000000000:=bL8
 have uT:∀f∈q.map (·.1),f.name.length<=1000000:=λf hf=>bo (kC (eI f hf)) eK
 refine xS ?_
 refine cM hG (ai0 a _ c q U bw ae2) U U U eC ?_
 rintro v B ⟨Ig,c11,q6,hq6,rfl,rfl⟩
 dsimp only[bh,bk,bj]
 have Nf:=JN (q.map (·.1))
 have hq6l:q6.length<=q.length:=by
  have h1:=aH eP hq6;have h2:=JO (q.map (·.1));rw[bF]at h1 h2;omega
 have hmem6:∀x∈q6,x.1.jE.name.length<=1000000:=by
  intro x hx;have h1:x.1∈wS (q.map (·.1)):=by rw[<-hq6];exact cu.2 ⟨x,hx,U⟩
  exact uT _ (Wv h1)
 have hold:JK (q.map (·.1))=(q6.filter λx=> !(!x.1.jK)).map (·.1):=by
  unfold JK;rw[<-hq6,List.filter_map];rfl
 have Ty:wT (q.map (·.1))=(qZ (q6.map (·.1))).kept:=by unfold wT;rw[hq6]
 rw[hold,Ty]at cD
 rw[<-hq6]at Nf
 have yN:=uj (q6.map (·.1))
 refine xS ?_
 refine cM hG (nG (e:=349) (c:=c11) (bt7 GG Ig _ c11 q6 U bw bw) (by rintro v B ⟨C,_,rfl⟩;infer_instance) U (λ_=>rfl)) U U U eC ?_
 rintro v B ⟨_,⟨C,rfl,rfl⟩,rfl⟩
 dsimp only[bh,bk,bj]
 have PF:=G' (qZ (q6.map (·.1)))
 have N2:=DM (qZ (q6.map (·.1))).all
 refine xS ?_
 refine cM hG (aJ4 GG C (qZ (q6.map (·.1))) bw) U U U eC ?_
 rintro v B ⟨Qo,c13,rfl,rfl⟩
 dsimp only[bh,bk,bj]
 rw[yN]at PF
 generalize(qZ (q6.map (·.1))).kept=K at*
 refine X.l8 qD C U λI=>?_
 dsimp only[bh,bk,bj]
 dsimp only[yV.cs]
 refine xA ?_
 intro N8
 generalize(qZ (q6.map (·.1))).top.toNat=top at*
 refine hU ([]:Y bG) ?_
 refine xQ (ah6 GG 225 [] [] (hA:=⟨λp hp=>by rw[cK.1 hp];exact ED ax⟩) (λx:px=> !x.1.jK) Ig _ c11 q6 U bw (λx _=>Wi GG x)) ?_
 refine aR6 q6 (q6.filter λx=> !(!x.1.jK)) (λy hy=>(eM.1 hy).1) ?_
 have hol:(q6.filter λx=> !(!x.1.jK)).length<=q.length:=bo (eF _ _) hq6l
 have hom:∀x∈q6.filter (λx=> !(!x.1.jK)),x.1.jE.name.length<=1000000:=λx hx=>hmem6 x (eM.1 hx).1
 generalize q6.filter (λx=> !(!x.1.jK))=jK at*
 refine dR Ig px.cs jK U U (λ_=>rfl) λ_=>?_
 refine dR Qo Rec.cs K U U (λ_=>rfl) λ_=>xS ?_
 refine X.dE (fh 270 5 _) ?_
 refine X.loop (ι:={z:ab×(ah aX×ab)×Y aR // z.1<=jK.length}) (λz=>([(0,.slice a q.length c),(1,.int .i64 size),(2,.int .i64 cap),(6,bu b6),(13,.slice Qo K.length c13),(14,bu N8),(15,.slice Ig jK.length c11),(69,.slice Ig jK.length c11),(70,bR jK.length),(71,bR z.1.1)],[own 270 5 z.1.2.1.1 z.1.1 z.1.2.1.2 z.1.2.2,bx N8 89 [.slice z.1.2.1.1 z.1.1 z.1.2.1.2,.int .u64 top,.int .i64 K.length,.int .i64 0],dp (cy px.cs) 5 Ig jK,H4 jK,dp (cy Rec.cs) 4 Qo K,bx b6 183 z183,dp (cy bY) 2 a q,eQ ca.data q])) (λz=>jK.length - z.1.1) ⟨(0,(aO,0),[]),bp _⟩ (Sub.of U) (show bS _ [own 270 5 aO 0 0 [],bx N8 89 [.slice aO 0 0,.int .u64 top,.int .i64 K.length,.int .i64 0],dp (cy px.cs) 5 Ig jK,H4 jK,dp (cy Rec.cs) 4 Qo K,bx b6 183 z183,dp (cy bY) 2 a q,eQ ca.data q]from bA) ?_
 rintro⟨⟨i,⟨fa,fc⟩,fx⟩,hi⟩ ih
 dsimp only at hi ih ⊢
 refine xB ?_ ?_<;>intro h5
 ·have hi:i<jK.length:=Ir;refine xS ?_;refine dJ U U U U U hi U λbl o=>?_;generalize jK[i]=x at*;refine xS ?_;refine eT U U U U  ?_;refine xA ?_;intro b17;refine xZ ?_;intro b81;refine uy U U U U cE cE cE cE bw λa82 c82=>xS ?_;exact X.W (ih ⟨(i+1,(a82,c82),fx++[bn x.1.jE.name,.int .i64 1,.slice aO 0 0,bn [],.int .i64 0]),by dsimp only;omega⟩ oQ)
 have gj:i=jK.length:=Ir
 subst gj
 clear ih h5 hi
 refine xS ?_
 refine cM hG (Wq GG Qo _ c13 K size U bw) U U U eC ?_
 rintro v B ⟨a5,c5,Z,hZ,rfl,rfl⟩
 dsimp only[bh,bk,bj]
 have hpo:=G9 size K
 have Rs:=T7 (q.map (·.1)) (jK.map (·.1)) (q8 K size) uT
 rw[<-hZ]at hpo Rs cD
 have PC:Ef (q.map (·.1)) (jK.map (·.1)) (Z.map (·.1))=if jK.map (λx=>x.1.jE.data)=Z.map (·.1)then⟨[],[]⟩else(jK.map (·.1)).foldl MM.iL ((Z.map (·.1)).foldl MM.writes ⟨[],(q.map (·.1)).map (·.name)⟩):=by
  unfold Ef;rw[dK];rfl
 generalize Ef (q.map (·.1)) (jK.map (·.1)) (Z.map (·.1))=MF at*
 rw[bF]at hpo
 simp only[bF]at Rs
 have D5:∀z∈Z,z.1.length<=1048576:=λz hz=>OE (size:=size) RM K _ (by rw[<-hZ];exact cu.2 ⟨z,hz,U⟩)
 refine dR a5 bsE Z U U (λ_=>rfl) λ_=>?_
 refine aw7 Z  ?_
 refine xP ?_
 intro L1
 refine xJ (Wt GG Ig _ c11 jK U bw a5 _ c5 Z U) ?_
 refine X.dE (fh 266 5 _) ?_
 refine X.dE (fh 9 1 _) ?_
 refine S3 fY.data ?_
 refine X.dE (fE (p:=([]:Y (WB fY)).map (·.1)=(⟨[],[]⟩:MM).steps) U _) ?_
 refine X.dE (Hs':=[pu (([]:Y (WB fY)).map (·.1)=(⟨[],[]⟩:MM).steps),eQ fY.data [],own 9 1 aO (⟨[],[]⟩:MM).names.length 0 ((⟨[],[]⟩:MM).names.flatMap Ee),own 266 5 aO ([]:Y (WB fY)).length 0 (([]:Y (WB fY)).flatMap eG),bx L1 355 [.slice aO ([]:Y (WB fY)).length 0,.slice aO (⟨[],[]⟩:MM).names.length 0],bx N8 89 [.slice fa jK.length fc,.int .u64 top,.int .i64 K.length,.int .i64 0],dp (cy px.cs) 5 Ig jK,H4 jK,dp (cy bsE) 1 a5 Z,eQ Lv Z,bx b6 183 z183,dp (cy bY) 2 a q,eQ ca.data q]) (show bS _ [pu (([]:Y (WB fY)).map (·.1)=(⟨[],[]⟩:MM).steps),eQ fY.data [],own 9 1 aO 0 0 [],own 266 5 aO 0 0 [],bx L1 355 [.slice aO 0 0,.slice aO 0 0],bx N8 89 [.slice fa jK.length fc,.int .u64 top,.int .i64 K.length,.int .i64 0],dp (cy px.cs) 5 Ig jK,H4 jK,dp (cy bsE) 1 a5 Z,eQ Lv Z,bx b6 183 z183,dp (cy bY) 2 a q,eQ ca.data q]from bA) ?_
 refine gr JJ L1 ⟨[],[]⟩ U ⟨[],aO,0,aO,0⟩ (xS ?_)
 have hMF:MF.ok (q.length+6*Z.length+2*jK.length):=Rs.1
 refine tq [0,2,6,14,19] [0,1,1,1,1] (ι:=aA) (λ_ q_=>q_) (λ_ q_=>JJ L1 MF::q_) ?fin ?main
 case main=>
  intro KK dF;refine yB (¬jK.map (λx=>x.1.jE.data)=Z.map (·.1)) (jK.map (λx=>x.1.jE.data)=Z.map (·.1)) ?_ ?_<;>intro he
  ·rw[aj he]at PC;refine xS ?_;refine fR [0,2,6,14,15,18,19,94] [0] (ι:={i:ab // i<=q.length}) (λi q_=>(95,bR q.length)::(96,bR i.1)::q_) (λi q_=>JJ L1 ⟨[],((q.map (·.1)).take i.1).map (·.name)⟩::q_) (λi=>q.length - i.1) ⟨0,bp _⟩ ?_;rintro⟨i,hi⟩ ih;dsimp only at hi ih ⊢;refine xB ?_ ?_<;>intro h5
   ·have hi:i<q.length:=Ir;have xz:((q.map (·.1)).take (i+1)).map (·.name)=((q.map (·.1)).take i).map (·.name)++[q[i].1.name]:=by
     rw[cg,eX,bX hi,dx];rfl
    have vF:(((q.map (·.1)).take i).map (·.name)).length<=q.length:=Wa;generalize((q.map (·.1)).take i).map (·.name)=nl at*;refine xS ?_;refine dJ U U U U U hi U λbl o=>?_;generalize q[i]=x at*;refine xS ?_;refine eT U U U U  ?_;refine xA ?_;intro b21;refine X.l8 JJ L1 U λp=>?_;obtain⟨ss,sa,sc,na,nc⟩:=p;dsimp only[bh,bk,bj];refine mF λhp=>?_;refine fU 7 [0,4] ?_;refine xL [0,1,2,3,4,5,6] ?_;refine xZ ?_;intro b107;refine fH (x.1.name) U U U U FL U cE cE cE cE cE bw λa108 c108=>xS ?_;refine X.dE (fE hp _) ?_;refine gr JJ L1 ⟨[],nl++[x.1.name]⟩ U ⟨ss,sa,sc,a108,c108⟩ ?_;rw[<-xz];exact bM9
   have gj:i=q.length:=Ir;subst gj;rw[bI dW];have hm0:MM.ok ⟨[],(q.map (·.1)).map (·.name)⟩ q.length:=⟨bp _,by simp,λs hs=>by
    obtain⟨f,hf,rfl⟩:=cu.1 hs;exact uT f hf⟩
   generalize(⟨[],(q.map (·.1)).map (·.name)⟩:MM)=m0 at*;clear ih h5 hi;refine xS ?_;refine fR [0,2,6,14,15,18,19,112] [0] (ι:={i:ab // i<=Z.length}) (λi q_=>(113,bR Z.length)::(114,bR i.1)::q_) (λi q_=>JJ L1 (((Z.map (·.1)).take i.1).foldl MM.writes m0)::q_) (λi=>Z.length - i.1) ⟨0,bp _⟩ ?_;rintro⟨i,hi⟩ ih;dsimp only at hi ih ⊢;have hwo:=(u0 ((Z.map (·.1)).take i) m0 q.length hm0).1;rw[dG,bF]at hwo;refine xB ?_ ?_<;>intro h5
   ·have hi:i<Z.length:=Ir;have hzi:=D5 _ (bE hi);have xz:((Z.map (·.1)).take (i+1)).foldl MM.writes m0=(((Z.map (·.1)).take i).foldl MM.writes m0).writes Z[i].1:=be9;refine nH (data:=Lv) Z Z[i] (bE hi) λjT mX=>?_;generalize((Z.map (·.1)).take i).foldl MM.writes m0=m1 at*;refine xS ?_;refine dJ U U U U U hi U λbl o=>?_;generalize Z[i]=z at*;refine xQ (RZ L1 _ m1 z.1 z.2.1 _ z.2.2 U jT mX hwo bw bw) ?_;exact bf0
   have gj:i=Z.length:=Ir;subst gj;rw[bI dW];have qM:=(u0 (Z.map (·.1)) m0 q.length hm0).1;rw[bF]at qM;generalize(Z.map (·.1)).foldl MM.writes m0=m1 at*;clear ih h5 hi hwo;refine xS ?_;refine fR [0,2,6,14,15,18,19,122] [0] (ι:={i:ab // i<=jK.length}) (λi q_=>(123,bR jK.length)::(124,bR i.1)::q_) (λi q_=>JJ L1 (((jK.map (·.1)).take i.1).foldl MM.iL m1)::q_) (λi=>jK.length - i.1) ⟨0,bp _⟩ ?_;rintro⟨i,hi⟩ ih;dsimp only at hi ih ⊢;have hwo:=(wU ((jK.map (·.1)).take i) m1 _ qM).1;rw[dG,bF]at hwo;refine xB ?_ ?_<;>intro h5
   ·have hi:i<jK.length:=Ir;have hoi:=hom _ (bE hi);have xz:((jK.map (·.1)).take (i+1)).foldl MM.iL m1=(((jK.map (·.1)).take i).foldl MM.iL m1).iL jK[i].1:=be9;generalize((jK.map (·.1)).take i).foldl MM.iL m1=m2 at*;refine xS ?_;refine dJ U U U U U hi U λbl o=>?_;generalize jK[i]=x at*;refine xS ?_;refine eT U U U U  ?_;refine xA ?_;intro b25;refine xQ (OD L1 _ m2 x hwo bw hoi) ?_;exact bf0
   have gj:i=jK.length:=Ir;subst gj;rw[bI dW,<-PC];exact JH
  ·rw[ao he]at PC;rw[PC]at dF;exact JH
 case fin=>
  intro _
  clear PC
  refine X.l8 JJ L1 U λp=>?_
  obtain⟨ss,sa,sc,na,nc⟩:=p
  dsimp only[bh,bk,bj]
  refine mF λhp=>?_
  have hp:ss.map (·.1)=MF.steps:=hp
  have hssl:ss.length<=1000000000000:=by
   have:=hMF.steps;rw[<-hp,bF]at this;omega
  refine dR sa eG ss U U (λ_=>rfl) λ_=>xS ?_
  refine tq [2,6] [1,2,2,3,3] (ι:=ab) (λb26 q_=>(26,bu b26)::q_) (λb26 q_=>bx b26 183 [.slice sa ss.length sc,.slice fa jK.length fc,.int .u64 top,.int .i64 K.length,.int .i64 0,.int .i64 ((uR (q.map (·.1)) (ss.map (·.1)):ab):ae)]::q_) ?f2 ?m2
  case m2=>
   intro KK dF;refine fU 10 [1,4] ?_;refine xL [0,1,2,3,4,5,6,7,8,9] ?_;refine eN U U U U U ?_ ?_
   ·refine xJ (GB GG a _ c q U sa _ sc ss U h0 bN0 (by rw[hp];have:=Rs.2;omega)) ?_;refine eN U U U U U ?_ ?_
    ·refine xA ?_;intro b26;exact X.W (dF b26)
    ·refine xA ?_;intro b26;exact X.W (dF b26)
   ·refine xA ?_;intro b26;refine xJ (GB GG a _ c q U sa _ sc ss U h0 bN0 (by rw[hp];have:=Rs.2;omega)) ?_;exact X.W (dF b26)
  case f2=>
   intro b26;rw[hp];refine yB ((uR (q.map (·.1)) MF.steps:ae)>cap) (¬(uR (q.map (·.1)) MF.steps:ae)>cap) ?_ ?_<;>intro h5
   ·rw[ao h5]at cD;exact ai8
   ·rw[aj h5]at cD;subst cD;refine xS ?_;exact cT hb (.jf U cE (.tmp U .nil)) ⟨ss,sa,sc,fa,_,fc,_,_,_,hp,U,U⟩
theorem R1{l:Y ca}{size cap:ae}{e:ae}(h:qT l size cap=.error e):e≠0:=by
 grind [qT]
theorem C9{m:MM}{N:ab}{d:Bs}(h:∀s∈m.steps,s.data.length<=N)(hd:d.length<=N):∀s∈(m.ahead nm d).steps,s.data.length<=N:=by
 intro s hs
 have hs:s∈m.steps++[⟨2,nm++jl,[],d,0⟩,⟨3,nm++jl,[],[],0⟩,⟨4,nm++jl,nm,[],0⟩]:=hs
 grind
theorem aJ9(fresh:Y Bs)(hf:∀d∈fresh,d.length<=50000000000):∀s∈(Ef l jK fresh).steps,s.data.length<=50000000000:=by
 have kw:∀(fresh:Y Bs) (m:MM),(∀d∈fresh,d.length<=50000000000)->(∀s∈m.steps,s.data.length<=50000000000)->∀s∈(fresh.foldl MM.writes m).steps,s.data.length<=50000000000:=by
  intro fresh;induction fresh with
  |nil=>grind
  |cons d r ih=>
   intro m hf h;rw[eD];refine ih _ (λd hd=>hf d (List.mem_cons_of_mem _ hd)) ?_;unfold MM.writes;exact C9 (C9 h (hf d dW)) (zw d)
 have kr:∀(jK:Y o9) (m:MM),(∀s∈m.steps,s.data.length<=50000000000)->∀s∈(jK.foldl MM.iL m).steps,s.data.length<=50000000000:=by
  intro jK;induction jK<;>grind [MM.iL]
 grind [Ef]
theorem Lw{l:Y ca}{size cap:ae}{z:Y fY}(h:qT l size cap=.ok z):z.length<=3*l.length+60000000/\(∀s∈z,s.data.length<=50000000000)/\mY l=aP/\(uR l z:ae)<=cap/\cap<=4194304:=by
 unfold qT at h;split at h
 ·cases h
 ·rename_i h1;have zW:size<=1048576:=bQ;split at h
  ·cases h
  ·rename_i h2;split at h
   ·cases h
   ·rename_i h3
    cases h
    have sK:mY l=aP:=by
     grind
    have tt:cap<=4194304:=bw
    have ZO:(cq l:ae)<=cap:=bw
    have uT:∀f∈l,f.name.length<=1000000:=λf hf=>bo (kC ((Bn sK).1 f hf)) eK
    have h4:=(T7 l (JK l) (q8 (wT l) size) uT).1.steps
    grind [G9,wT,G',uj,JN,JK,JO,aJ9,OE]
def mJ(s:cd)(size:ae):cd×ae:=
 if(decide (64<=size)&&decide (size<=1048576))=aQ then(s,140)
 else if s.down=aP then(s,75)
 else match qT s.all size s.cap with
  |.error e=>(s,e)
  |.ok z=>((s.nO z).1,(s.nO z).2.2)
theorem ai9(D:ab)(s:cd)(size:ae)(hl:s.files.length<=50000000000):
 TR be GG 83 #[bu D,.int .i64 size] [cJ D s] (dC λv B=>v=.int .i64 (mJ s size).2/\B=[cJ D (mJ s size).1]):=by
 refine bZ U λb O hb hG=>?_
 generalize cD:mJ s size=res
 unfold mJ at cD
 refine qV D λeI=>?_
 have h2:=eI.le
 have h3:=eI.cap
 have Nf:=eI.yA
 have hu:=si eI
 have sF:=mH s
 refine xB ?_ ?_<;>intro h1
 ·have h1:(decide (64<=size)&&decide (size<=1048576))=aQ:=bQ;rw[ao h1]at cD;subst cD;exact xR
 have h1:¬(decide (64<=size)&&decide (size<=1048576))=aQ:=bQ
 rw[aj h1]at cD
 refine xE (Gu GG D s) ?_
 refine xB ?_ ?_<;>intro hd
 ·have hd:s.down=aP:=hd;rw[ao hd]at cD;subst cD;exact xR
 have hd:s.down=aQ:=bw
 rw[aj (by simp[hd])]at cD
 refine xS ?_
 refine cP (kj GG D s bw) ?_
 rintro v B ⟨a,c,rfl,rfl⟩
 dsimp only[bh,bk,bj]
 refine pX a c (l:=s.all) λq hq hqc It=>?_
 refine xH (A4 GG D s) ?_
 rw[<-hq]at cD hu sF ⊢
 rw[bF]at sF ⊢
 refine xS ?_
 refine cP (Ww size s.cap a _ c q U bw It bw) ?_
 intro v B hD
 have T2:=@R1 (q.map (·.1)) size s.cap
 have MH:=@Lw (q.map (·.1)) size s.cap
 cases hp:qT (q.map (·.1)) size s.cap with
 |error e=>
  rw[hp]at hD cD;obtain⟨rfl,rfl⟩:=hD;subst cD;have h0:=T2 hp;refine xD ?_;refine xA ?_;intro b5;refine bD 24 aP U V3  ?_;exact xR
 |ok z=>
  rw[hp]at hD cD;obtain⟨D5,hzs,_⟩:=MH hp;obtain⟨ss,sa,sc,fa,fn,fc,t,f,p,ir,rfl,rfl⟩:=hD;dsimp only at cD;refine xD ?_;refine xA ?_;intro b5;have qN:ss.length<=1000000000000:=by
   grind
  refine cP (Ll GG D s sa _ sc ss U qN (λx hx=>by
   grind)) ?_
  rintro v B ⟨rfl,rfl⟩;rw[ir];refine xD ?_;subst cD;exact xR
end
section
variable{n:Bs}{w:Wr}{f:cN}(W D:ab)(x:WD)(b:Bs)(p:Place)(r:Rec)(G:dA)
def WD.begin(x:WD):WD×ae:=
 let r:=x.settle
 if r.2≠0 then r else
 let w1:Wr:={r.1.1 with number:=(im 1 r.1.2.names).1}
 let c:=r.1.2.create (iG w1)
 if c.2≠0 then(({w1.hit c.2 with number:=r.1.1.number},c.1),c.2)else(({w1.hit c.2 with size:=0},c.1),0)
theorem H6(s:cd):s.names.length=s.files.length:=by grind [cd.names,kf]
theorem cd.ok.names{s:cd}(h:s.ok)(hn:n∈s.names):n.length<=60:=by
 have h1:n∈s.files.map (·.1):=(jh _).mem_iff.1 hn
 obtain⟨x,hx,rfl⟩:=cu.1 h1
 have:=h.name x hx
 grind [eO]
theorem R2(s:cd)(files:Y (Bs×cN))(u:ab):(s.jg files u).1.files=files\/(s.jg files u).1.files=s.files:=by
 unfold cd.jg;split
 ·split
  ·grind
  ·exact .inr U
 ·split
  ·exact .inr U
  grind
theorem OF(s:cd)(files:Y (Bs×cN))(u n:ab)(h1:files.length<=n)(h2:s.files.length<=n):(s.jg files u).1.files.length<=n:=by
 grind [R2]
theorem aj0(l:Y (Bs×cN))(n:Bs)(f:cN):(oV l n f).length=l.length:=by grind [oV]
theorem Kd(s:cd)(n:Bs):(s.sync n).1.files.length<=s.files.length:=by
 unfold cd.sync
 split
 ·exact bf1
 grind
theorem E5(s:cd)(n:Bs)(ys:Bs):(s.append n ys).1.files.length<=s.files.length:=by
 unfold cd.append
 split
 ·split
  ·exact bz _
  ·exact bf1
 grind
theorem E6(s:cd)(n:Bs):(s.create n).1.files.length<=s.files.length+1:=by
 unfold cd.create;split
 ·exact iz _
 ·split
  ·exact OF _ _ _ _ dW (iz _)
  grind
theorem WD.u3:x.settle.1.2.files.length<=x.2.files.length:=by
 grind [WD.settle,Kd]
theorem aj1(hl:x.2.files.length<=100000000000):
 TR be GG 204 #[bu W] [bx W 177 (x.1.cs D),cJ D x.2] (dC λv B=>v=.int .i64 x.begin.2/\B=[bx W 177 (x.begin.1.1.cs D),cJ D x.begin.1.2]):=by
 refine dH U λb O hb hG=>?_
 refine xH (Cz W D x) ?_
 have qx:x.settle.1.2.files.length<=100000000000:=bo (WD.u3 x) hl
 have e0:x.begin=if x.settle.2≠0 then x.settle else
  if(x.settle.1.2.create (iG {x.settle.1.1 with number:=(im 1 x.settle.1.2.names).1})).2≠0 then
   (({({x.settle.1.1 with number:=(im 1 x.settle.1.2.names).1}:Wr).hit (x.settle.1.2.create (iG {x.settle.1.1 with number:=(im 1 x.settle.1.2.names).1})).2 with number:=x.settle.1.1.number},(x.settle.1.2.create (iG {x.settle.1.1 with number:=(im 1 x.settle.1.2.names).1})).1),(x.settle.1.2.create (iG {x.settle.1.1 with number:=(im 1 x.settle.1.2.names).1})).2)
  else(({({x.settle.1.1 with number:=(im 1 x.settle.1.2.names).1}:Wr).hit (x.settle.1.2.create (iG {x.settle.1.1 with number:=(im 1 x.settle.1.2.names).1})).2 with size:=0},(x.settle.1.2.create (iG {x.settle.1.1 with number:=(im 1 x.settle.1.2.names).1})).1),0):=U
 generalize x.begin=y at*
 generalize x.settle=r at*
 obtain⟨⟨w,s⟩,e⟩:=r
 dsimp only at*
 refine yB (e≠0) (e=0) ?_ ?_<;>intro h1
 ·rw[ao h1]at e0;subst e0;exact xR
 ·subst h1;rw[aj dW]at e0;refine xS ?_;refine qV D λeI=>?_;refine cP (VT GG D s bw) ?_;rintro v B ⟨a,c,rfl,rfl⟩;dsimp only[bh,bk,bj];have Xz:s.names.length<=100000000000:=by grind [H6]
  refine xS ?_;refine dR a (λk:Bs=>[bn k]) s.names U U (λ_=>rfl) λhc=>?_;refine xJ (Gj 1 a s.names.length c s.names U bw λt ht=>by have:=eI.names ht;omega) ?_;rw[show(im 1 s.names).2=0 from rfl];refine xS ?_;have hd:=XY (Gr GG D s (iG {w with number:=(im 1 s.names).1})) (bx W 177 (Wr.cs D {w with number:=(im 1 s.names).1}));refine xH (K9 W D {w with number:=(im 1 s.names).1} 309 [bu D] [] (cJ D s) _ _ hd) ?_;generalize(im 1 s.names).1=n at*;generalize s.create (iG {w with number:=n})=q at*;refine yB (q.2≠0) (q.2=0) ?_ ?_<;>intro h2
  ·rw[ao h2]at e0;subst e0;refine xS ?_;exact X.ret hb (.tmps U) ⟨[bx W 177 (Wr.cs D {({w with number:=n}:Wr).hit q.2 with number:=w.number}),cJ D q.1],⟨U,U⟩,bA⟩
  ·rw[aj MZ]at e0;subst e0;refine xS ?_;exact X.ret hb (.tmps U) ⟨[bx W 177 (Wr.cs D {({w with number:=n}:Wr).hit q.2 with size:=0}),cJ D q.1],⟨U,U⟩,bA⟩
theorem WD.JP:x.begin.1.2.files.length<=x.2.files.length+1:=by
 grind [WD.begin,WD.u3,E6]
def WD.sync(x:WD):WD×ae:=if x.1.shut=aP then(x,92)else x.settle
theorem Ha:
 TR be GG 80 #[bu W] [bx W 177 (x.1.cs D),cJ D x.2] (dC λv B=>v=.int .i64 x.sync.2/\B=[bx W 177 (x.sync.1.1.cs D),cJ D x.sync.1.2]):=by
 refine dH U λb O hb hG=>xS ?_
 unfold WD.sync
 refine xB ?_ ?_<;>intro h1
 ·rw[ao h1];exact xR
 ·rw[aj (by simp[h1])];refine xS ?_;refine cP (Cz W D x) ?_;exact Oa
def WD.close(x:WD):WD×ae:=(({x.sync.1.1 with shut:=aP},x.sync.1.2),x.sync.2)
theorem DN:
 TR be GG 82 #[bu W] [bx W 177 (x.1.cs D),cJ D x.2] (dC λv B=>v=.int .i64 x.close.2/\B=[bx W 177 (x.close.1.1.cs D),cJ D x.close.1.2]):=by
 refine dH U λb O hb hG=>?_
 refine xH (Ha W D x) ?_
 unfold WD.close
 refine xS ?_
 exact X.ret hb (.tmps U) ⟨[bx W 177 (Wr.cs D {x.sync.1.1 with shut:=aP}),cJ D x.sync.1.2],⟨U,U⟩,bA⟩
theorem aK0(b2 b6:ab)(w:Wr)(s:cd)(name:Bs)(a:ah aX)(n c:ab)(xs:Bs)(hn:xs.length=n)(hs:n<=1000000000000):
 TR be GG 206 #[bn name,bu b2,bu b6] [bx W 177 (w.cs D),dZ [bx b2 128 [bu W],bx b6 55 [.slice a n c],dp RB 1 a xs,cJ D s]]
  (dC λv B=>v=.int .i64 (s.append name xs).2/\B=[bx W 177 (w.cs D),dZ [bx b2 128 [bu W],bx b6 55 [.slice a n c],dp RB 1 a xs,cJ D (s.append name xs).1]]):=by
 refine jy U λb O hb hG=>?_
 refine mc [bx b2 128 [bu W],bx b6 55 [.slice a n c],dp RB 1 a xs,cJ D s] (xD ?_)
 refine fU 6 [0,4,1] ?_
 refine xL [0,1,2,3,4,5] ?_
 refine xE (Gt GG D s name a n c xs hn hs) ?_
 refine hU [bx b2 128 [bu W],bx b6 55 [.slice a n c],dp RB 1 a xs,cJ D (s.append name xs).1] ?_
 exact xR
def Place.zero:Place:=⟨0,0,0⟩
def WD.Eg(x:WD)(p:Place):WD×Place×ae:=
 let z:=if 0<x.1.every/\x.1.every<=x.1.count then x.settle else(x,0)
 if z.2≠0 then(z.1,.zero,z.2)else(z.1,p,0)
def WD.zK(x:WD)(b:Bs):WD×Place×ae:=
 let a:=x.2.append (iG x.1) b
 let w2:=x.1.hit a.2
 if a.2≠0 then((w2,a.1),.zero,a.2)else
 WD.Eg ({w2 with size:=w2.size+b.length,loose:=w2.loose+b.length,count:=w2.count+1},a.1) ⟨w2.number,w2.size,b.length⟩
def WD.put(x:WD)(r:Rec):WD×Place×ae:=
 if x.1.shut=aP then(x,.zero,92)else
 if dD (gv r)≠0 then(x,.zero,dD (gv r))else
 let b:=oA (gv r)
 if x.1.number=0\/(0<x.1.size/\x.1.ed<x.1.size+b.length)then
  if x.begin.2≠0 then(x.begin.1,.zero,x.begin.2)else x.begin.1.zK b
 else x.zK b
structure Wr.Ve(w:Wr):Prop where
 l2:w.ed<=1048576
 e2:w.every<=1000
 sz:w.size<=2000000
 lo:w.loose<=2000000
 co:w.count<=2000000
def bN1(W D:ab)(q:WD×Place×ae)(v:aR)(B:Y bG):Prop:=v=.tuple #[q.2.1.v,.int .i64 q.2.2]/\B=[bx W 177 (q.1.1.cs D),cJ D q.1.2]
theorem Wx(hl:x.2.files.length<=100000000000)(hw:x.1.Ve)(Rl:x.begin.1.1.Ve):
 TR be GG 135 #[bu W,.agg r.cs.toArray] [bx W 177 (x.1.cs D),cJ D x.2] (dC (bN1 W D (x.put r))):=by
 refine bZ U λb O hb hG=>?_
 refine xP ?_
 intro b2
 refine xP ?_
 intro b3
 refine xA ?_
 intro b4
 have e0:x.put r=if x.1.shut=aP then(x,.zero,92)else if dD (gv r)≠0 then(x,.zero,dD (gv r))else
  if x.1.number=0\/(0<x.1.size/\x.1.ed<x.1.size+(oA (gv r)).length)then
  if x.begin.2≠0 then(x.begin.1,.zero,x.begin.2)else x.begin.1.zK (oA (gv r))
  else x.zK (oA (gv r)):=U
 generalize x.put r=res at*
 refine xB ?_ ?_<;>intro h1
 ·have h1:x.1.shut=aP:=h1;exact ba4
 ·rw[aj (by simp[h1])]at e0;refine xS ?_;have hlen:=oB (gv r);refine cP (Ce GG (gv r)) ?_;intro v B hq;rcases hq with⟨he,a,c,rfl,rfl⟩|⟨he,rfl,rfl⟩
  ·rw[aj Ws]at e0;have hlen:=hlen he;generalize oA (gv r)=ys at*;refine xD ?_;refine xA ?_;intro b6;refine jz a U λhc=>?_;refine iK (ι:={t:ai // t=decide (x.1.number=0\/(0<x.1.size/\x.1.ed<x.1.size+ys.length))}) (λt=>([(2,bu b2),(4,bu b4),(6,bu b6),(52,.bool t.1)],[bx b2 128 [bu W],bx b4 153 [.int .u32 0,.int .i64 0,.int .i64 0],bx b6 55 [.slice a ys.length c],dp RB 1 a ys,bx W 177 (x.1.cs D),cJ D x.2])) (λt=>?_) (λK fin=>?_)
   ·obtain⟨t,ht⟩:=t;dsimp only;refine xS ?_;refine iK (ι:={y:WD // y.1.Ve/\res=y.zK ys}) (λy=>([(2,bu b2),(4,bu b4),(6,bu b6)],[bx b2 128 [bu W],bx b4 153 [.int .u32 0,.int .i64 0,.int .i64 0],bx b6 55 [.slice a ys.length c],dp RB 1 a ys,bx W 177 (y.1.1.cs D),cJ D y.1.2])) (λy=>?_) (λK fin=>?_)
    ·obtain⟨y,hy,ey⟩:=y;dsimp only;refine xS ?_;refine hU [bx b2 128 [bu W],bx b6 55 [.slice a ys.length c],dp RB 1 a ys,cJ D y.2] ?_;refine xH (K9 W D y.1 206 [] [bu b2,bu b6] _ _ _ (aK0 W D b2 b6 y.1 y.2 (iG y.1) a _ c ys U bw)) ?_;refine mc [bx b2 128 [bu W],bx b6 55 [.slice a ys.length c],dp RB 1 a ys,cJ D (y.2.append (iG y.1) ys).1] ?_;dsimp only[bh,bk,bj];have ey:res=if(y.2.append (iG y.1) ys).2≠0 then((y.1.hit (y.2.append (iG y.1) ys).2,(y.2.append (iG y.1) ys).1),.zero,(y.2.append (iG y.1) ys).2)else
      WD.Eg ({y.1.hit (y.2.append (iG y.1) ys).2 with size:=(y.1.hit (y.2.append (iG y.1) ys).2).size+ys.length,loose:=(y.1.hit (y.2.append (iG y.1) ys).2).loose+ys.length,count:=(y.1.hit (y.2.append (iG y.1) ys).2).count+1},(y.2.append (iG y.1) ys).1) ⟨(y.1.hit (y.2.append (iG y.1) ys).2).number,(y.1.hit (y.2.append (iG y.1) ys).2).size,ys.length⟩:=ey
     generalize y.2.append (iG y.1) ys=q at*;have hz:(y.1.hit q.2).Ve:=⟨hy.l2,hy.e2,hy.sz,hy.lo,hy.co⟩;generalize y.1.hit q.2=w2 at*;refine yB (q.2≠0) (q.2=0) ?_ ?_<;>intro h3
     ·rw[ao h3]at ey;exact bN2
     ·rw[aj (by simp[h3])]at ey;have q3:=hz.sz;have q4:=hz.lo;have q5:=hz.co;refine xS ?_;refine fG (sG [0,1,2,3,4,5,6,7,8,9,10]) [bx b2 128 [bu W],bx W 177 (w2.cs D),bx b6 55 [.slice a ys.length c]] U ?_;refine xL [0,1,2,3,4,5,6,7,8,9,10] ?_;refine xA ?_;intro tu;refine fG (sG [0,1,2,3,4,5,6]) [bx b2 128 [bu W],bx W 177 (w2.cs D),bx b6 55 [.slice a ys.length c]] U ?_;refine xL [0,1,2,3,4,5,6] ?_;refine xS ?_;refine fG (sG [0,1,2,3,4,5,6]) [bx b2 128 [bu W],bx W 177 [bu D,.int .i64 w2.ed,.int .i64 w2.every,.int .u32 w2.number.toNat,.int .i64 ((w2.size:ae)+ys.length),.int .i64 w2.loose,.int .i64 w2.count,.bool w2.shut],bx b6 55 [.slice a ys.length c]] U ?_;refine xL [0,1,2,3,4,5,6] ?_;refine xS ?_;rw[show(w2.size:ae)+(ys.length:ae)=((w2.size+ys.length:ab):ae)from by simp,show(w2.loose:ae)+(ys.length:ae)=((w2.loose+ys.length:ab):ae)from by simp,show(w2.count:ae)+1=((w2.count+1:ab):ae)from by simp];refine X.dE (Hs':=[bx b2 128 [bu W],bx b4 153 [.int .u32 0,.int .i64 0,.int .i64 0],bx tu 153 (Place.cs ⟨w2.number,w2.size,ys.length⟩),bx W 177 (Wr.cs D {w2 with size:=w2.size+ys.length,loose:=w2.loose+ys.length,count:=w2.count+1}),cJ D q.1]) bA ?_;generalize(⟨w2.number,w2.size,ys.length⟩:Place)=p at*;generalize hw3:({w2 with size:=w2.size+ys.length,loose:=w2.loose+ys.length,count:=w2.count+1}:Wr)=w3 at*;have hc3:w3.count<=2000001:=bQ;refine iK (ι:={t:ai // t=decide (0<w3.every/\w3.every<=w3.count)}) (λt=>([(2,bu b2),(4,bu b4),(10,bu tu),(117,.bool t.1)],[bx b2 128 [bu W],bx b4 153 [.int .u32 0,.int .i64 0,.int .i64 0],bx tu 153 p.cs,bx W 177 (w3.cs D),cJ D q.1])) (λt=>?_) (λK fin=>?_)
      ·obtain⟨t,ht⟩:=t;dsimp only;have e2:WD.Eg (w3,q.1) p=if(if 0<w3.every/\w3.every<=w3.count then WD.settle (w3,q.1)else((w3,q.1),0)).2≠0 then((if 0<w3.every/\w3.every<=w3.count then WD.settle (w3,q.1)else((w3,q.1),0)).1,.zero,(if 0<w3.every/\w3.every<=w3.count then WD.settle (w3,q.1)else((w3,q.1),0)).2)else((if 0<w3.every/\w3.every<=w3.count then WD.settle (w3,q.1)else((w3,q.1),0)).1,p,0):=U;refine xB ?_ ?_<;>intro h4
       ·have h4:t=aP:=h4;subst h4;have hc5:0<w3.every/\w3.every<=w3.count:=bQ;rw[ao hc5]at e2;refine xH (Cz W D (w3,q.1)) ?_;generalize WD.settle (w3,q.1)=z at*;refine yB (z.2≠0) (z.2=0) ?_ ?_<;>intro h5
        ·rw[ao h5]at e2;exact aj2
        ·rw[aj (by simp[h5])]at e2;exact aj2
       ·have h4:t=aQ:=h4;subst h4;have hc5:¬(0<w3.every/\w3.every<=w3.count):=bQ;rw[aj hc5,aj dW]at e2;exact aj2
      ·by_cases n1:0<w3.every
       ·refine fG (sG [0,1,2,3,4,5,6,7,8,9,10,11,12,13,14,15]) [bx b2 128 [bu W],bx W 177 (w3.cs D)] U ?_;apply dB [0,1,2,3,4,5,6,7,8,9,10,11,12,13,14,15] U U U
        ·intro pp hp;refine xS ?_;refine bD 107 aP U fD (xS ?_);exact hp
        ·rfl
        ·rfl
        refine xS ?_;exact X.less (fin ⟨_,U⟩) (Qm U U U (by rw[show decide (0<w3.every/\w3.every<=w3.count)=decide ((w3.count:ae)≥w3.every)from by simp[n1]];rfl)) bA
       ·refine fG (sG [0,1,2,3,4,5,6,7,8,9,10,11,12,13,14,15]) [bx b2 128 [bu W],bx W 177 (w3.cs D)] U ?_;apply dB [0,1,2,3,4,5,6,7,8,9,10,11,12,13,14,15] U U U
        ·intro pp hp;refine xS ?_;refine bD 107 aQ U fD (xS ?_);exact hp
        ·rfl
        ·rfl
        refine xS ?_;exact X.W (fin ⟨aQ,by simp[n1]⟩)
    ·refine xB ?_ ?_<;>intro h2
     ·have h2:t=aP:=h2;subst h2;rw[ao bQ]at e0;refine xH (aj1 W D x hl) ?_;generalize x.begin=q at*;refine yB (q.2≠0) (q.2=0) ?_ ?_<;>intro h3
      ·rw[ao h3]at e0;exact af0
      ·rw[aj (by simp[h3])]at e0;refine xS ?_;exact X.W (fin ⟨q.1,Rl,e0⟩)
     ·have h2:t=aQ:=h2;subst h2;rw[aj bQ]at e0;refine xS ?_;exact X.W (fin ⟨x,hw,e0⟩)
   ·obtain⟨w,s⟩:=x;dsimp only at*;have q1:=hw.l2;have q3:=hw.sz;by_cases n0:w.number=0
    ·refine fG (sG [0,1,2,3,4,5,6,7,8,9,10,11,12,13,14,15,16,17,18,19,20,21,22,23,24,25]) [bx b2 128 [bu W],bx W 177 (w.cs D),bx b6 55 [.slice a ys.length c]] U ?_;apply dB [0,1,2,3,4,5,6,7,8,9,10,11,12,13,14,15,16,17,18,19,20,21,22,23,24,25] U U U
     ·intro p hp;refine xS ?_;refine bD 32 aP U (by simp[n0]) (xS ?_);exact hp
     ·rfl
     ·rfl
     refine xS ?_;exact X.W (fin ⟨aP,by simp[n0]⟩)
    ·have hn0:¬w.number.toNat=0:=λhh=>n0 (fk.1 (by rw[hh];rfl));by_cases n1:0<w.size
     ·refine fG (sG [0,1,2,3,4,5,6,7,8,9,10,11,12,13,14,15,16,17,18,19,20,21,22,23,24,25]) [bx b2 128 [bu W],bx W 177 (w.cs D),bx b6 55 [.slice a ys.length c]] U ?_;apply dB [0,1,2,3,4,5,6,7,8,9,10,11,12,13,14,15,16,17,18,19,20,21,22,23,24,25] U U U
      ·intro p hp;refine xS ?_;refine bD 32 aQ U fD (xS ?_);refine bD 38 aP U fD (xS ?_);exact hp
      ·rfl
      ·rfl
      refine xS ?_;exact X.less (fin ⟨_,U⟩) (Qm U U U (by rw[show decide (w.number=0\/0<w.size/\w.ed<w.size+ys.length)=decide ((w.size:ae)+ys.length>w.ed)from by grind];rfl)) bA
     ·refine fU 26 [4,5,1] ?_;apply dB [0,1,2,3,4,5,6,7,8,9,10,11,12,13,14,15,16,17,18,19,20,21,22,23,24,25] U U U
      ·intro p hp;refine xS ?_;refine bD 32 aQ U fD (xS ?_);refine bD 38 aQ U fD (xS ?_);exact hp
      ·rfl
      ·rfl
      refine xS ?_;exact X.W (fin ⟨aQ,by simp[n0,n1]⟩)
  ·rw[ao he]at e0;subst e0;generalize oA (gv r)=ys at*;generalize dD (gv r)=e at*;refine xD ?_;refine xA ?_;intro b6;exact bf2
structure Wr.lZ(w:Wr):Prop where
 l2:w.ed<=1048576
 e2:w.every<=1000
 sz:w.size<=1060000
 lo:w.loose<=w.size
 co:w.count<=w.loose
theorem Wr.lZ.Ve(h:w.lZ):w.Ve:=⟨h.l2,h.e2,by have:=h.sz;omega,by have:=h.sz;have:=h.lo;omega,by have:=h.sz;have:=h.lo;have:=h.co;omega⟩
theorem Wr.lZ.hit(h:w.lZ)(e:ae):(w.hit e).lZ:=⟨h.l2,h.e2,h.sz,h.lo,h.co⟩
theorem WD.wV(h:x.1.lZ):x.settle.1.1.lZ/\(x.settle.2=0->x.settle.1.1.loose=0/\x.settle.1.1.count=0):=by
 unfold WD.settle;split
 ·rename_i h0;exact⟨h,λ_=>⟨h0,by have:=h.co;grind⟩⟩
 ·dsimp only;split
  ·exact⟨⟨h.l2,h.e2,h.sz,bp _,bp _⟩,λ_=>⟨U,U⟩⟩
  ·rename_i mf;exact⟨h.hit _,λhh=>aD hh mf⟩
theorem WD.zL(h:x.1.lZ):x.begin.1.1.lZ/\(x.begin.2=0->x.begin.1.1.size=0):=by
 unfold WD.begin
 dsimp only
 obtain⟨h1,h2⟩:=x.wV h
 split
 ·grind
 ·rename_i h0;have h0:x.settle.2=0:=bw;obtain⟨h3,h4⟩:=h2 h0;split
  ·rename_i h5;exact⟨⟨h1.l2,h1.e2,h1.sz,h1.lo,h1.co⟩,λhh=>aD hh h5⟩
  ·refine⟨⟨h1.l2,h1.e2,bp _,?_,?_⟩,λ_=>rfl⟩
   ·show x.settle.1.1.loose<=0;omega
   ·show x.settle.1.1.count<=x.settle.1.1.loose;omega
theorem Wy(f:nN):1<=(oA f).length:=by grind [oA,AI]
theorem Kk(h:x.1.lZ):(x.Eg p).1.1.lZ:=by
 unfold WD.Eg
 split
 ·dsimp only;split<;>exact(x.wV h).1
 grind
theorem Ku(h:x.1.lZ)(hb:1<=b.length)(S9:b.length<=6100)(hs:x.1.size=0\/x.1.size+b.length<=x.1.ed):(x.zK b).1.1.lZ:=by
 unfold WD.zK;dsimp only;split
 ·exact h.hit _
 ·apply Kk;have h1:=h.lo;have h2:=h.co;have h3:=h.l2;refine⟨h.l2,h.e2,?_,?_,?_⟩
  ·show x.1.size+b.length<=1060000;omega
  ·show x.1.loose+b.length<=x.1.size+b.length;omega
  ·show x.1.count+1<=x.1.loose+b.length;omega
theorem Ml(h:x.1.lZ):(x.put r).1.1.lZ:=by
 unfold WD.put;split
 ·exact h
 ·split
  ·exact h
  ·rename_i h0
   have h0:dD (gv r)=0:=bw
   dsimp only
   obtain⟨h1,h2⟩:=x.zL h
   grind [Ku,Wy,oB]
theorem WD.JQ(h:x.1.lZ):x.sync.1.1.lZ:=by
 unfold WD.sync;split
 ·exact h
 ·exact(x.wV h).1
theorem yJ(h:x.1.lZ):x.close.1.1.lZ:=by
 have:=x.JQ h;exact⟨this.l2,this.e2,this.sz,this.lo,this.co⟩
theorem aj3(hl:x.2.files.length<=100000000000)(hw:x.1.lZ):
 TR be GG 135 #[bu W,.agg r.cs.toArray] [bx W 177 (x.1.cs D),cJ D x.2] (dC (bN1 W D (x.put r))):=Wx W D x r hl hw.Ve (x.zL hw).1.Ve
theorem Md:(x.Eg p).1.2.files.length<=x.2.files.length:=by
 unfold WD.Eg
 split
 ·dsimp only;split<;>exact x.u3
 grind
theorem Dc:(x.zK b).1.2.files.length<=x.2.files.length:=by
 grind [WD.zK,E5,Md]
theorem P6:(x.put r).1.2.files.length<=x.2.files.length+1:=by
 unfold WD.put;split
 ·exact iz _
 ·split
  ·exact iz _
  ·dsimp only
   split
   ·split
    ·exact x.JP
    ·exact bo (Dc _ _) x.JP
   grind [Dc]
theorem aR9:x.sync.1.2.files.length<=x.2.files.length:=by
 unfold WD.sync;split
 ·exact bz _
 ·exact x.u3
theorem aj4{s:cd}{r:ai}{e:ae}(h:s.find n r=(aN f,e)):(n,f)∈s.files:=by
 grind [cd.find,kO,cz]
theorem cd.ok.aK1{s:cd}(h:s.ok)(hm:(n,f)∈s.files):f.data.length<=4194304:=by
 have h1:=Nj hm
 have h2:=h.yA
 have h3:=h.le
 have h4:=h.cap
 grind
theorem cd.ok.aj5{s:cd}(h:s.ok)(n:Bs)(a l:ae):(s.read n a l).2.1.length<=4194304:=by
 unfold cd.read
 split
 ·rename_i f e hf;split
  ·exact bp _
  ·dsimp only
   have:=h.aK1 (aj4 hf)
   grind
 grind
def lF(s:cd)(p:Place):cd×Rec×ae:=
 if(gU 1 p.sE).2≠0\/p.at_<0\/p.len<1 then(s,.zero,90)else
 let q:=s.read (gU 1 p.sE).1 p.at_ p.len
 if q.2.2≠0 then(q.1,.zero,q.2.2)else
 let d:=cX q.2.1 0
 if d.2.2≠0\/d.2.1≠p.len\/(d.1.kind≠1/\d.1.kind≠2)then(q.1,.zero,91)else(q.1,d.1.lW,0)
theorem Hb(s:cd)(p:Place)(h1:p.at_<=9223372036854775807)(h2:p.len<=9223372036854775807):
 TR be GG 141 #[bu D,.agg p.cs.toArray] [cJ D s] (dC λv B=>v=.tuple #[.agg (lF s p).2.1.cs.toArray,.int .i64 (lF s p).2.2]/\B=[cJ D (lF s p).1]):=by
 refine bZ U λb O hb hG=>?_
 refine xP ?_
 intro b3
 refine xA ?_
 intro b4
 refine xJ (AY 1 p.sE) ?_
 have e0:lF s p=if(gU 1 p.sE).2≠0\/p.at_<0\/p.len<1 then(s,.zero,90)else
  if(s.read (gU 1 p.sE).1 p.at_ p.len).2.2≠0 then((s.read (gU 1 p.sE).1 p.at_ p.len).1,.zero,(s.read (gU 1 p.sE).1 p.at_ p.len).2.2)else
  if(cX (s.read (gU 1 p.sE).1 p.at_ p.len).2.1 0).2.2≠0\/(cX (s.read (gU 1 p.sE).1 p.at_ p.len).2.1 0).2.1≠p.len\/((cX (s.read (gU 1 p.sE).1 p.at_ p.len).2.1 0).1.kind≠1/\(cX (s.read (gU 1 p.sE).1 p.at_ p.len).2.1 0).1.kind≠2)then((s.read (gU 1 p.sE).1 p.at_ p.len).1,.zero,91)else((s.read (gU 1 p.sE).1 p.at_ p.len).1,(cX (s.read (gU 1 p.sE).1 p.at_ p.len).2.1 0).1.lW,0):=U
 generalize gU 1 p.sE=nm at*
 generalize lF s p=res at*
 have bad:∀{N vs k H F F'},((nm.2≠0\/p.at_<0\/p.len<1))->lk vs 4=aN (bu b4)->lk vs 5=aN (.int .i64 90)->FB H b4 151 [.int .u64 0,.int .i64 0,bn [],bn []] F->ES H [cJ D s] F'->X be b O aO (.it (.code .ret::k)) ⟨N,vs,[]⟩ H (dC λv B=>v=.tuple #[.agg res.2.1.cs.toArray,.int .i64 res.2.2]/\B=[cJ D res.1]):=by
  intro N vs k H F F' hc g1 g2 g3 g4;rw[ao hc]at e0;subst e0;exact cT hb (.jf g1 U (.tmp g2 .nil)) ⟨U,U⟩
 refine xT 19 ?_ ?_<;>intro h3
 ·refine xS ?_;refine xS ?_;exact bad (.inl bQ) U U ax ax
 ·have h3:nm.2=0:=bQ;refine xT 24 ?_ ?_<;>intro h4
  ·refine xS ?_;exact bad (.inr (.inl bQ)) U U ax ax
  ·have h4:¬p.at_<0:=bQ;refine xB ?_ ?_<;>intro h5
   ·refine xS ?_;exact bad (.inr (.inr bQ)) U U ax ax
   ·have h5:¬p.len<1:=bQ;rw[aj bw]at e0;refine xS ?_;refine qV D λeI=>?_;have N2:=eI.aj5 nm.1 p.at_ p.len;refine cP (ac4 GG D s nm.1 p.at_ p.len h1 h2) ?_;rintro v B ⟨B',hq,rfl⟩;generalize s.read nm.1 p.at_ p.len=q at*;obtain⟨s2,xs,e⟩:=q;dsimp only at*;rcases hq with⟨he,a,c,rfl,rfl⟩|⟨he,rfl,rfl⟩
    ·dsimp only at he;rw[aj Ws]at e0;refine xD ?_;refine nX a λha Jf=>?_;refine jz a U λhc=>?_;refine xJ (rE GG a xs.length c xs 0 U Jf bw) ?_;generalize cX xs 0=d at*;refine xA ?_;intro b9;refine xT 52 ?_ ?_<;>intro h6
     ·rw[ao (.inl bQ)]at e0;exact af0
     ·have h6:d.2.2=0:=bQ;refine xT 58 ?_ ?_<;>intro h7
      ·rw[ao (.inr (.inl bQ))]at e0;exact af0
      ·have h7:d.2.1=p.len:=bQ;refine yT 62 (d.1.kind≠1) (d.1.kind=1) ?_ ?_<;>intro h8
       ·refine yB (d.1.kind≠2) (d.1.kind=2) ?_ ?_<;>intro h9
        ·rw[ao (.inr (.inr ⟨h8,h9⟩))]at e0;exact af0
        exact bf3
       exact bf3
    ·dsimp only at he;rw[ao he]at e0;subst e0;refine xD ?_;exact bf2
instance:QN be 178:=⟨by kernel_rfl⟩
def aK2(c:Bs)(e:ae)(v:aR)(B:Y bG):Prop:=(e=0/\v=.nilIface/\B=[])\/(e≠0/\∃p,v=.iface 178 (bu p)/\B=[bx p 180 [bn c,.iface 23 (.int .i64 e)]])
theorem iv(c:Bs)(e:ae):TR be G 65 #[bn c,.int .i64 e] [] (dC (aK2 c e)):=by
 refine bZ U λb O hb hG=>?_;refine yB (e=0) (e≠0) ?_ ?_<;>intro h
 ·refine xS ?_;exact X.ret hb (.tmps U) ⟨_,.inl ⟨h,U,U⟩,bS.nil _⟩
 ·refine xS ?_;refine rN U U U  ?_;refine xP ?_;intro p;refine rN U U U (xS ?_);exact X.ret hb (.tmps U) ⟨_,.inr ⟨h,p,U,U⟩,bA⟩
instance bS8(s:Bs):FJ be 74 [bn s] [] (.bool (decide (1<=s.length)&&decide (s.length<=64))):=⟨λG=>by
 clear x;refine dH U λb O hb hG=>?_;refine yT 6 ((s.length:ae)>0) (¬(s.length:ae)>0) ?_ ?_<;>intro h
 ·have e1:decide (1<=s.length)=aP:=aK bw;rw[e1,Bool.true_and];refine xS ?_;exact cT hb (.tmps U) ⟨by simp only[mv];congr 2;grind,U⟩
 ·have e1:decide (1<=s.length)=aQ:=aM bw;rw[e1,Bool.false_and];refine xS ?_;exact cT hb (.tmps U) ⟨U,U⟩⟩
structure gW where
 ed:ae
 every:ae
 lj:ai
 wr:Wr
 dir:fu
 last:az
 closed:ai
 broken:ai
abbrev gW.cs(D W K:ab)(l:ae)(x:gW):Y aR:=[.int .i32 l,.int .u32 0,bu D,.int .i64 x.ed,.int .i64 x.every,.bool x.lj,bu W,bu K,.int .u64 x.last.toNat,.bool x.closed,.bool x.broken]
def gW.writes(x:gW)(n:ab):ae:=if x.broken=aP then 155 else if 18446744073709551615 - x.last.toNat<n then 154 else 0
theorem JR(S D W K:ab)(l:ae)(x:gW)(n:ab)(hn:n<=1000000000000):TR be G 73 #[bu S,.int .i64 n] [bx S 145 (x.cs D W K l)] (dC λv B=>v=.int .i64 (x.writes n)/\B=[bx S 145 (x.cs D W K l)]):=by
 refine bZ U λb O hb hG=>?_;have hw:x.writes n=if x.broken=aP then 155 else if 18446744073709551615 - x.last.toNat<n then 154 else 0:=U;have vz:=x.last.toNat_lt;refine xB ?_ ?_<;>intro h
 ·have h:x.broken=aP:=h;rw[ao h]at hw;rw[hw];exact xR
 ·have h:¬x.broken=aP:=bQ;rw[aj h]at hw;have e2:ee.wrap (18446744073709551615 - (x.last.toNat:ae))=18446744073709551615 - (x.last.toNat:ae):=by grind [jm,jX,iM]
  have e1:ee.wrap (n:ae)=n:=bs5;refine xS ?_;rw[e1];refine yB (18446744073709551615 - x.last.toNat<n) (¬18446744073709551615 - x.last.toNat<n) ?_ ?_<;>intro h2
  ·rw[ao h2]at hw;rw[hw];exact xR
  ·rw[aj h2]at hw;rw[hw];exact xR
abbrev gW.sw(x:gW)(e:ae):gW:={x with broken:=x.broken||e==74||e==75}
theorem Bt(S D W K:ab)(l:ae)(x:gW)(e:ae):TR be G 79 #[bu S,.int .i64 e] [bx S 145 (x.cs D W K l)] (dC λv B=>v=.int .i64 e/\B=[bx S 145 ((x.sw e).cs D W K l)]):=by
 refine bZ U λb O hb hG=>?_;obtain⟨ed,every,lj,wr,dir,last,closed,broken⟩:=x;unfold gW.sw;refine xT 10 ?_ ?_<;>intro h
 ·have h:broken=aP:=h;subst h;refine xS ?_;refine X.ret hb (.tmps U) ⟨_,⟨U,U⟩,?_⟩;simp only[Bool.true_or];exact bA
 ·have h:broken=aQ:=bw;subst h;refine yT 14 (e=74) ((e==74)=aQ) ?_ ?_<;>intro h2
  ·subst h2;refine xS ?_;refine X.ret hb (.tmps U) ⟨_,⟨U,U⟩,?_⟩;simp only[BEq.rfl,Bool.or_true,Bool.true_or];exact bA
  ·refine xS ?_;refine X.ret hb (.tmps U) ⟨_,⟨U,U⟩,?_⟩;simp only[h2,Bool.false_or];exact bA
def Lx:Y (ca×ca)->cd->cd×ae
 |[],s=>(s,0)
 |x::r,s=>if(cR x.1.name).1≠1\/x.1.data.length=x.2.data.length then Lx r s else if(s.sync x.1.name).2≠0 then s.sync x.1.name else Lx r (s.sync x.1.name).1
def lI(s:cd):cd×ae:=Lx (s.all.zip s.nv) s
theorem OG(s:cd)(f:cN->ab):(s.told f).length=s.names.length:=by grind [cd.told]
theorem R3(s:cd)(hl:s.files.length<=100000000000):
 TR be GG 68 #[bu D] [cJ D s] (dC λv B=>v=.int .i64 (lI s).2/\B=[cJ D (lI s).1]):=by
 refine dH U λb O hb hG=>?_
 generalize cD:lI s=res
 unfold lI at cD
 refine qV D λeI=>?_
 have sF:=mH s
 have vP:=λf hf=>(@qg s eI f hf).1
 have vF:s.nv.length=s.all.length:=by rw[OG,OG]
 refine xS ?_
 refine cP (NX GG D s bw eI) ?_
 rintro v B ⟨a3,c3,rfl,rfl⟩
 dsimp only[bh,bk,bj]
 refine pX a3 c3 (l:=s.nv) λq3 hq3 hqc3 hq03=>xS ?_
 refine cP (kj GG D s bw) ?_
 rintro v B ⟨a,c,rfl,rfl⟩
 dsimp only[bh,bk,bj]
 refine pX a c (l:=s.all) λq hq hqc It=>?_
 rw[<-hq]at sF vP vF cD ⊢
 rw[<-hq3]at vF cD ⊢
 simp only[bF]at sF vF ⊢
 rw[vF]
 refine xS ?_
 refine fR [0,3,12] [1,3,1] (ι:={z:ab×cd // z.1<=q.length/\Lx (((q.map (·.1)).zip (q3.map (·.1))).drop z.1) z.2=res}) (λz q_=>(13,bR q.length)::(14,bR z.1.1)::q_) (λz q_=>cJ D z.1.2::q_) (λz=>q.length - z.1.1) ⟨(0,s),bp _,cD⟩ ?_
 clear cD
 rintro⟨⟨i,s1⟩,hi,hS⟩ ih
 dsimp only at hi hS ih ⊢
 refine xB ?_ ?_<;>intro h
 ·have hi:i<q.length:=sH;have hi3:i<q3.length:=bw;have hdz:((q.map (·.1)).zip (q3.map (·.1))).drop i=(q[i].1,q3[i].1)::((q.map (·.1)).zip (q3.map (·.1))).drop (i+1):=by
   rw[bP fD];simp
  rw[hdz]at hS;have hxn:=kC (vP _ (cu.2 ⟨_,bE hi,U⟩));unfold Lx at hS;refine S0 (Re:=cy bY) (xs:=q3) a3 i hi3 λg3 o3 hg3=>?_;subst hg3;refine xS ?_;refine dJ U U U U U hi U λbl o=>?_;generalize q[i]=x at*;generalize q3[i]=y at*;refine xS ?_;refine eT U U U U  ?_;refine xA ?_;intro b5;refine xJ (n4 x.1.name bw) ?_;by_cases hc:(cR x.1.name).1≠1
  ·rw[ao (.inl hc)]at hS;refine fU 14 [0,2] ?_;apply dB [0,1,2,3,4,5,6,7,8,9,10,11,12,13] U U U
   ·intro p hp;refine xS ?_;exact be6
   ·rfl
   ·rfl
   refine xS ?_;exact bf4
  by_cases hd:x.1.data.length=y.1.data.length
  ·rw[ao (.inr hd)]at hS;refine fU 14 [0,2] ?_;apply dB [0,1,2,3,4,5,6,7,8,9,10,11,12,13] U U U
   ·exact bf5
   ·rfl
   ·rfl
   refine xS ?_;refine bD 38 aP U (by simp[hd]) (xS ?_);exact bf4
  rw[aj (λh=>h.elim hc hd)]at hS;refine fU 14 [0,2] ?_;apply dB [0,1,2,3,4,5,6,7,8,9,10,11,12,13] U U U
  ·exact bf5
  ·rfl
  ·rfl
  refine xS ?_;refine bD 38 aQ U fD  ?_;refine xQ (Gs GG D s1 x.1.name) ?_;generalize s1.sync x.1.name=z at*;refine yB (z.2≠0) (¬z.2≠0) ?_ ?_<;>intro he
  ·rw[ao he]at hS;subst hS;exact xR
  ·rw[aj he]at hS;refine xS ?_;exact X.W (ih ⟨(i+1,z.1),by dsimp only;omega,hS⟩ oQ)
 ·have gj:i=q.length:=sH;subst gj;rw[cx fD]at hS;have hS:(s1,0)=res:=hS;subst hS;exact xR
def pQ(d:fu)(x:Place×Rec):fu:=(d.add [jW x]).1
def vJ(l:Y ca):fu:=(ni l).foldl pQ []
theorem R4(V:Y (Place×Rec)):(V.foldl pQ []).ok/\eZ (V.foldl pQ [])<=V.length:=by
 have key:∀(V:Y (Place×Rec)) (d:fu),d.ok->(V.foldl pQ d).ok/\eZ (V.foldl pQ d)<=eZ d+V.length:=by
  intro V;induction V<;>grind [rP,pQ]
 have:=key V [] ⟨List.nodup_nil,λx hx=>vE,λx hx=>vE⟩
 grind [eZ]
theorem Wz(s:cd)(hl:s.files.length<=100000000000):
 TR be GG 84 #[bu D] [cJ D s] (dC λv B=>∃K,v=bu K/\B=[jc K (vJ s.all),cJ D s]):=by
 refine dH U λb O hb hG=>?_
 refine qV D λeI=>?_
 have hvl:=sg s.all
 rw[si eI]at hvl
 have h1:=eI.yA
 have h2:=eI.le
 have h3:=eI.cap
 have sF:=mH s
 have jv:=λf hf=>@qg s eI f hf
 have hkd:vJ s.all=(ni s.all).foldl pQ []:=U
 refine xS ?_
 refine cP (La GG) ?_
 rintro v B ⟨K,rfl,rfl⟩
 refine xD ?_
 refine xA ?_
 intro b3
 refine cP (kj GG D s bw) ?_
 rintro v B ⟨a,c,rfl,rfl⟩
 dsimp only[bh,bk,bj]
 refine pX a c (l:=s.all) λq hq hqc It=>?_
 rw[hkd]
 generalize s.all=l at*
 subst hq
 rw[bF]at sF
 rw[bF]
 refine xS ?_
 refine cP (Le GG a q.length c) ?_
 rintro v B ⟨p,rfl,rfl⟩
 refine xD ?_
 generalize hV:ni (q.map (·.1))=V at*
 have hit:=Lf p a q.length c q U bw (λx hx=>by
  have h5:=jv _ (cu.2 ⟨x,hx,U⟩);have h6:=kC h5.1;exact⟨by omega,by omega⟩)
 rw[hV]at hit
 refine rL hG hb hit U (λpre=>[jc K (pre.foldl pQ []),bx b3 133 [bu K]]) [jc K [],bx b3 133 [bu K]] U (λ_=>rfl) eK ?_ ?_
 ·intro b' β' l' r pre x post hx mM BS hr;have tJ:pre.length+1<=4194304:=bQ;have Rs:(pre++[x]).foldl pQ []=((pre.foldl pQ []).add [jW x]).1:=by rw[List.foldl_append];rfl
  have qL:=(R4 pre).2;have Iu:jW x=⟨x.2.key,x.2.fQ,x.2.kind,x.1,aP,if dD (gv x.2)=0 then fV (gv x.2)else[]⟩:=U;rw[Rs];generalize pre.foldl pQ []=d at*;generalize jW x=sx at*;obtain⟨pl,rc⟩:=x;dsimp only[pr2,AB]at Iu ⊢;refine xA ?_;intro b5;refine xA ?_;intro b6;refine qO mM hr (xS ?_);refine En BS U U U (xS ?_);refine cM BS (qa GG (gv rc)) U U U bS.es ?_;rintro v B (⟨h0,a7,c7,rfl,rfl⟩|⟨h0,rfl,rfl⟩)
  ·rw[ao h0]at Iu;subst Iu;have zX:=uf h0;refine xD ?_;refine Ab U U U U (xS ?_);refine me U U cE cE cE cE cE cE λb31=>?_;refine jx (sz:=8) b31 Seen.cs [(⟨rc.key,rc.fQ,rc.kind,pl,aP,fV (gv rc)⟩:Seen)] U (λ_=>rfl) (xS ?_);refine cM BS (CA GG K d (aN ⟨b31,0,aO⟩) 1 1 [(⟨rc.key,rc.fQ,rc.kind,pl,aP,fV (gv rc)⟩:Seen)] U fD) U U U bS.es ?_;exact bf6
  ·rw[aj h0]at Iu;subst Iu;refine xD ?_;refine ku au RB 1 (xS ?_);refine me U U cE cE cE cE cE cE λb31=>?_;refine jx (sz:=8) b31 Seen.cs [(⟨rc.key,rc.fQ,rc.kind,pl,aP,[]⟩:Seen)] U (λ_=>rfl) (xS ?_);refine cM BS (CA GG K d (aN ⟨b31,0,aO⟩) 1 1 [(⟨rc.key,rc.fQ,rc.kind,pl,aP,[]⟩:Seen)] U fD) U U U bS.es ?_;exact bf6
 ·intro DD;refine xD ?_;exact ba7
end
section
variable{A:Y bG}{args:ar aR}{f:FuncId}{P:aT}{G:dA}{c:Bs}{N:ab}{e:ae}(S D:ab)(l:ae)(x:gW)(d:cd)
def EJ(r:Rec):Bs:=if dD (gv r)=0 then fV (gv r)else[]
def gW.write(x:gW)(d:cd)(r0:Rec):(gW×cd)×ae:=
 let r:Rec:=⟨x.last+1,r0.kind,r0.key,r0.val⟩
 let q:=WD.put (x.wr,d) r
 if q.2.2≠0 then((gW.sw {x with wr:=q.1.1} q.2.2,q.1.2),q.2.2)
 else(({x with wr:=q.1.1,last:=r.fQ,dir:=(x.dir.add [⟨r.key,r.fQ,r.kind,q.2.1,aP,EJ r⟩]).1},q.1.2),(x.dir.add [⟨r.key,r.fQ,r.kind,q.2.1,aP,EJ r⟩]).2)
def eL(k:ab×ab×ae)(x:gW):bG:=ex λp:ab×ab=>[bx k.1 145 (x.cs k.2.1 p.1 p.2 k.2.2),bx p.1 177 (x.wr.cs k.2.1),jc p.2 x.dir]
theorem JS(r0:Rec)(hl:d.files.length<=100000000000)(hw:x.wr.lZ)(iP:eZ x.dir+1<=1000000000):
 TR be GG 75 #[bu S,.agg r0.cs.toArray] [eL (S,D,l) x,cJ D d] (dC λv B=>v=.int .i64 (x.write d r0).2/\B=[eL (S,D,l) (x.write d r0).1.1,cJ D (x.write d r0).1.2]):=by
 refine bZ U λb O hb hG=>?_
 generalize cD:x.write d r0=res
 unfold gW.write at cD
 have vF:((x.last+1).toNat:ae)=ee.wrap ((x.last.toNat:ae)+1):=by
  have:=x.last.toNat_lt;unfold jm;simp[jX,iM]
 refine xP ?_
 intro b3
 refine X.l8 eL (S,D,l) U λp=>?_
 obtain⟨W,K⟩:=p
 refine xD ?_
 rw[<-vF]
 obtain⟨r,hr⟩:∃r:Rec,r=⟨x.last+1,r0.kind,r0.key,r0.val⟩:=⟨_,U⟩
 have hrc:[gf .u64 (x.last+1).toNat,.int .i64 r0.kind,bn r0.key,bn r0.val]=r.cs:=by rw[hr]
 have hlsn:x.last+1=r.fQ:=by rw[hr]
 rw[hrc]
 dsimp only at cD
 rw[<-hr]at cD
 have B7:r0.key=r.key:=by rw[hr]
 have bf7:r0.kind=r.kind:=by rw[hr]
 rw[hlsn,B7,bf7]at cD
 clear hrc hr vF B7 bf7
 refine tq [0,3] [2,3] (ι:=ab) (λb5 q_=>(5,bu b5)::(6,.int .i64 (WD.put (x.wr,d) r).2.2)::q_) (λb5 q_=>bx b5 153 (WD.put (x.wr,d) r).2.1.cs::bx W 177 ((WD.put (x.wr,d) r).1.1.cs D)::cJ D (WD.put (x.wr,d) r).1.2::q_) ?fin ?main
 case main=>
  intro KK dF;refine xS ?_;refine ph [0,1,2,3,4,5,7,8,9] [1,0] ?_;refine xL [0,1,2,3,4,5] ?_;refine eN U U U U U ?_ ?_
  ·refine xH (aj3 W D (x.wr,d) r hl hw) ?_;generalize WD.put (x.wr,d) r=z at*;obtain⟨⟨w1,d1⟩,p1,e1⟩:=z;dsimp only at dF ⊢;refine xS ?_;refine xL [7,8,9] ?_;refine xA ?_;intro b5;exact X.W (dF b5)
  ·refine xA ?_;intro b5;refine xH (aj3 W D (x.wr,d) r hl hw) ?_;generalize WD.put (x.wr,d) r=z at*;obtain⟨⟨w1,d1⟩,p1,e1⟩:=z;dsimp only at dF ⊢;refine xS ?_;refine xL [8,9] ?_;refine xS ?_;exact X.W (dF b5)
 case fin=>
  intro b5;generalize WD.put (x.wr,d) r=z at*;obtain⟨⟨w1,d1⟩,p1,e1⟩:=z;dsimp only at cD ⊢;refine yB (e1≠0) (¬e1≠0) ?_ ?_<;>intro h1
  ·rw[ao h1]at cD;subst cD;refine xS ?_;refine cM hG (Bt GG S D W K l {x with wr:=w1} e1) U U U (bA (A:=[bx S 145 (x.cs D W K l),bx b5 153 p1.cs,bx b3 151 r.cs,bx W 177 (w1.cs D),jc K x.dir,cJ D d1])) ?_;rintro v B ⟨rfl,rfl⟩;refine xD ?_;refine gr eL (S,D,l) (gW.sw {x with wr:=w1} e1) U (W,K) ?_;exact xR
  ·rw[aj h1]at cD;have hrb:EJ r=if dD (gv r)=0 then fV (gv r)else[]:=U;refine xS ?_;refine cP (qa GG (gv r)) ?_;rintro v B (⟨h0,a7,c7,rfl,rfl⟩|⟨h0,rfl,rfl⟩)
   ·rw[ao h0]at hrb;rw[hrb]at cD;subst cD;have zX:=uf h0;dsimp only[bh,bk,bj];refine jz a7 (l:=fV (gv r)) U λ_=>xS ?_;refine fG (sG [0,1,2,3,4,5,6,7,8,9,10,11,12,13,14]) [bx S 145 (gW.cs D W K l {x with wr:=w1,last:=r.fQ}),bx b5 153 p1.cs,bx b3 151 r.cs,dp RB 1 a7 (fV (gv r))] U ?_;refine xL [0,1,2,3,4,5,6,7,8,9,10,11,12,13,14] ?_;refine xS ?_;refine me U U cE cE cE cE cE cE λb56=>?_;refine jx (sz:=8) b56 Seen.cs [(⟨r.key,r.fQ,r.kind,p1,aP,fV (gv r)⟩:Seen)] U (λ_=>rfl)  ?_;refine xE (CA GG K x.dir (aN ⟨b56,0,aO⟩) 1 1 [(⟨r.key,r.fQ,r.kind,p1,aP,fV (gv r)⟩:Seen)] U fD) ?_;refine gr eL (S,D,l) {x with wr:=w1,last:=r.fQ,dir:=(x.dir.add [⟨r.key,r.fQ,r.kind,p1,aP,fV (gv r)⟩]).1} U (W,K) ?_;exact xR
   ·rw[aj h0]at hrb;rw[hrb]at cD;subst cD;dsimp only[bh,bk,bj];refine ku au RB 1 (xS ?_);refine fG (sG [0,1,2,3,4,5,6,7,8,9,10,11,12,13,14]) [bx S 145 (gW.cs D W K l {x with wr:=w1,last:=r.fQ}),bx b5 153 p1.cs,bx b3 151 r.cs,dp RB 1 aO ([]:Bs)] U ?_;refine xL [0,1,2,3,4,5,6,7,8,9,10,11,12,13,14] ?_;refine xS ?_;refine me U U cE cE cE cE cE cE λb56=>?_;refine jx (sz:=8) b56 Seen.cs [(⟨r.key,r.fQ,r.kind,p1,aP,[]⟩:Seen)] U (λ_=>rfl)  ?_;refine xE (CA GG K x.dir (aN ⟨b56,0,aO⟩) 1 1 [(⟨r.key,r.fQ,r.kind,p1,aP,[]⟩:Seen)] U fD) ?_;refine gr eL (S,D,l) {x with wr:=w1,last:=r.fQ,dir:=(x.dir.add [⟨r.key,r.fQ,r.kind,p1,aP,[]⟩]).1} U (W,K) ?_;exact xR
def Eh(s:Bs):ai:=decide (1<=s.length)&&decide (s.length<=64)
def JT(e:ae)(r:Rec)(key:Bs)(fQ:az):Prop:=e=71\/e=91\/(e=0/\(r.kind≠1\/r.key≠key\/r.fQ≠fQ))
instance(e:ae)(r:Rec)(key:Bs)(fQ:az):Decidable (JT e r key fQ):=by unfold JT;infer_instance
def gW.get(x:gW)(d:cd)(key:Bs):cd×Bs×ai×ae:=
 if x.closed=aP then(d,[],aQ,153)
 else if Eh key=aQ then(d,[],aQ,151)
 else if(x.dir.get key).2≠0 then(d,[],aQ,0)
 else
  let q:=lF d (x.dir.get key).1.place
  if JT q.2.2 q.2.1 key (x.dir.get key).1.fQ then(q.1,[],aQ,156)
  else if q.2.2≠0 then(q.1,[],aQ,q.2.2)
  else(q.1,q.2.1.val,aP,0)
def OH(p:Place):Prop:=p.at_<=9223372036854775807/\p.len<=9223372036854775807
theorem aK3(key:Bs)(iP:eZ x.dir<=1000000000)(tJ:OH (x.dir.get key).1.place):
 TR be GG 78 #[bu S,bn key] [eL (S,D,l) x,cJ D d] (dC λv B=>v=.tuple #[bn (x.get d key).2.1,.bool (x.get d key).2.2.1,.int .i64 (x.get d key).2.2.2]/\B=[eL (S,D,l) x,cJ D (x.get d key).1]):=by
 refine bZ U λb O hb hG=>?_
 generalize cD:x.get d key=res
 unfold gW.get at cD
 refine X.l8 eL (S,D,l) U λp=>?_
 obtain⟨W,K⟩:=p
 refine xD ?_
 refine xB ?_ ?_<;>intro h1
 ·have h1:x.closed=aP:=h1;rw[ao h1]at cD;exact aj6
 have h1:¬x.closed=aP:=yz
 rw[aj h1]at cD
 refine xS ?_
 have CD:Eh key=(decide (1<=key.length)&&decide (key.length<=64)):=U
 rw[<-CD]
 refine xB ?_ ?_<;>intro h2
 ·have h2:Eh key=aQ:=Cc;rw[ao h2]at cD;exact aj6
 have h2:¬Eh key=aQ:=Cc
 rw[aj h2]at cD
 refine xH (Lm GG K x.dir key iP) ?_
 generalize x.dir.get key=g at*
 obtain⟨sn,ge⟩:=g
 dsimp only at cD tJ ⊢
 refine xA ?_
 intro b7
 refine xB ?_ ?_<;>intro h3
 ·have h3:ge≠0:=M8;rw[ao h3]at cD;exact aj6
 have h3:¬ge≠0:=M8
 rw[aj h3]at cD
 refine xS ?_
 refine tq [0,1,7] [4] (ι:=ab) (λb9 q_=>(8,.int .i64 (lF d sn.place).2.2)::(9,bu b9)::q_) (λb9 q_=>bx b9 151 (lF d sn.place).2.1.cs::cJ D (lF d sn.place).1::q_) ?fin ?main
 case main=>
  intro KK dF;refine ph [0,1,2,3,4,5,7,8,9] [2,0] ?_;refine xL [0,1,2,3,4,5] ?_;refine eN U U U U U ?_ ?_
  ·refine xE (Hb D d sn.place tJ.1 tJ.2) ?_;refine xL [7,8,9] ?_;refine xA ?_;intro b9;exact X.W (dF b9)
  ·refine xA ?_;intro b9;refine xE (Hb D d sn.place tJ.1 tJ.2) ?_;refine xL [8,9] ?_;refine xS ?_;exact X.W (dF b9)
 case fin=>
  intro b9;generalize lF d sn.place=z at*;obtain⟨d1,r,e⟩:=z;dsimp only at cD ⊢;refine gr eL (S,D,l) x U (W,K) ?_;have bad:JT e r key sn.fQ->(d1,([]:Bs),aQ,(156:ae))=res:=λh=>by rw[ao h]at cD;exact cD
  have lZ:¬JT e r key sn.fQ->(if e≠0 then(d1,([]:Bs),aQ,e)else(d1,r.val,aP,0))=res:=λh=>by rw[aj h]at cD;exact cD
  clear cD;unfold JT at bad lZ;refine xT 44 ?_ ?_<;>intro h4
  ·have h4:e=71:=ZC;have:=bad (.inl h4);subst this;exact xR
  have h4:¬e=71:=ZC;refine xT 48 ?_ ?_<;>intro h5
  ·have h5:e=91:=by simpa using h5
   have:=bad (.inr (.inl h5));subst this;exact xR
  have h5:¬e=91:=by simpa using h5
  refine xT 51 ?_ ?_<;>intro h6
  ·have h6:e=0:=by simpa using h6
   refine xT 55 ?_ ?_<;>intro h7
   ·have h7:r.kind≠1:=by simpa using h7
    have:=bad (.inr (.inr ⟨h6,.inl h7⟩));subst this;exact xR
   have h7:¬r.kind≠1:=by simpa using h7
   refine xT 61 ?_ ?_<;>intro h8
   ·have h8:r.key≠key:=by simpa using h8
    have:=bad (.inr (.inr ⟨h6,.inr (.inl h8)⟩));subst this;exact xR
   have h8:¬r.key≠key:=by simpa using h8
   refine xB ?_ ?_<;>intro h9
   ·have h9:r.fQ≠sn.fQ:=by rintro h;rw[h]at h9;simp at h9
    have:=bad (.inr (.inr ⟨h6,.inr (.inr h9)⟩));subst this;exact xR
   have h9:r.fQ=sn.fQ:=iX.1 (by simp at h9;omega);have:=lZ (λh=>h.elim h4 λh=>h.elim h5 λh=>h.2.elim h7 λh=>h.elim h8 λh=>h h9);rw[aj (by simp[h6])]at this;subst this;refine xS ?_;refine El (by simp[h6];rfl)  ?_;exact xR
  have h6:¬e=0:=by simpa using h6
  have:=lZ (λh=>h.elim h4 λh=>h.elim h5 λh=>h6 h.1);rw[ao h6]at this;subst this;refine xB ?_ ?_<;>intro h9
  ·exact xR
  ·exact aD (by simpa using h9) h6
theorem bk9{B:Y bG}(h:TD P G f args A B)(F:Y bG):TD P G f args (A++F) (B++F):=by
 intro O w hG hs u
 obtain⟨β',hβ,Ao,sT⟩:=mo hs
 refine(h β' w (G.mono hβ hG) Ao u).mono ?_
 grind
theorem bo2{ι:Type}{g1 g2:ι->Y bG}(h:∀i,TD P G f args (g1 i) (g2 i)):TD P G f args [ex g1] [ex g2]:=by
 intro O w hG hs u
 obtain⟨i,hi⟩:=jB hs
 rw[bj]at hi
 refine(h i O w hG hi u).mono ?_
 rintro e u' w' ⟨h1,h2,h3⟩
 refine⟨h1,h2,h3.dE ?_⟩
 have:=iY (f:=g2) i []
 grind
theorem iw(G:dA)(S D:ab)(x:gW):TD be G 71 (([bu S]:Y aR)++[]).toArray [eL (S,D,1) x] [eL (S,D,0) x]:=
 bo2 λp=>bk9 (Vs G S 145 [.int .u32 0,bu D,.int .i64 x.ed,.int .i64 x.every,.bool x.lj,bu p.1,bu p.2,.int .u64 x.last.toNat,.bool x.closed,.bool x.broken]) [bx p.1 177 (x.wr.cs D),jc p.2 x.dir]
theorem qE(G:dA)(S D:ab)(x:gW):TR be G 70 #[bu S] [eL (S,D,0) x] (dC λv B=>v=.tuple #[]/\B=[eL (S,D,1) x]):=by
 refine Ko λp=>?_;refine(BX (aC6 G S 145 [.int .u32 0,bu D,.int .i64 x.ed,.int .i64 x.every,.bool x.lj,bu p.1,bu p.2,.int .u64 x.last.toNat,.bool x.closed,.bool x.broken]) [bx p.1 177 (x.wr.cs D),jc p.2 x.dir]).eY (bS.refl _) ?_;rintro e B hB;cases e with
 |panicked ch=>exact hB.elim
 |outgrown=>exact hB.elim
 |returned v=>
  obtain⟨B',⟨rfl,rfl⟩,rfl⟩:=hB
  refine⟨_,⟨U,U⟩,?_⟩
  have:=iY (f:=λp:ab×ab=>[bx S 145 (x.cs D p.1 p.2 1),bx p.1 177 (x.wr.cs D),jc p.2 x.dir]) p []
  rwa [bj]at this
theorem nz{b:bc}{O:de}{vs:Y (ab×aR)}{H:Y bG}{R:aZ->Y bG->Prop}{k:Y Item}{f f1:ab}{rs:Y ResultVar}(nA:nL b f)[hf:FR P f rs][uD:CF P f1]{us cap:Y aR}{x y:bG}{F:Y bG}(hG:G.on O)(hT:TD P G f1 (us++cap).toArray [x] [y])[hE:ES H [x] F]{l:Y aR}(hl:kK P ⟨N,vs,[⟨.fn (.func f1) cap.toArray,us.toArray⟩]⟩ (y::F) rs l)(h:∃C,R (.returned (mv l)) C/\bS (y::F) C):
 X P b O aO (.it (.code .ret::k)) ⟨N,vs,[⟨.fn (.func f1) cap.toArray,us.toArray⟩]⟩ H R:=bm4 nA hG hT hE.out hl h
theorem Hc(G:dA)(S D:ab)(x:gW):TR be G 48 #[bu S] [eL (S,D,0) x] (dC λv B=>v=.int .u64 x.last.toNat/\B=[eL (S,D,0) x]):=by
 refine dH U λb O hb hG=>xS ?_;refine cP (qE G S D x) ?_;rintro v B ⟨rfl,rfl⟩;refine xD ?_;refine De hb U U (xS ?_);refine X.l8 eL (S,D,1) U λp=>?_;obtain⟨W,K⟩:=p;refine xD ?_;refine gr eL (S,D,1) x U (W,K) ?_;exact nz (us:=[bu S]) (cap:=[]) hb hG (iw G S D x) (.tmps U) ⟨_,⟨U,U⟩,bA⟩
def sy(c:Bs)(e:ae)(A:Y bG)(v:aR)(B:Y bG):Prop:=∃B1,aK2 c e v B1/\B=B1++A
theorem sy.ok:sy c 0 A .nilIface A:=⟨[],.inl ⟨U,U,U⟩,U⟩
theorem sy.ok'(h:e=0):sy c e A .nilIface A:=⟨[],.inl ⟨h,U,U⟩,U⟩
theorem sy.err{p:ab}(h:e≠0):sy c e A (.iface 178 (bu p)) (bx p 180 [bn c,.iface 23 (.int .i64 e)]::A):=⟨[_],.inr ⟨h,p,U,U⟩,U⟩
theorem sA(iP:eZ x.dir<=1000000000):TR be GG 35 #[bu S] [eL (S,D,0) x] (dC λv B=>∃a c,v=.slice a (if x.closed=aP then[]else x.dir.keys).length c/\B=[own 9 1 a (if x.closed=aP then[]else x.dir.keys).length c ((if x.closed=aP then[]else x.dir.keys).flatMap Ee),eL (S,D,0) x]):=by
 refine dH U λb O hb hG=>?_;refine xE (qE GG S D x) ?_;refine De hb U U (xS ?_);refine X.l8 eL (S,D,1) U λp=>?_;obtain⟨W,K⟩:=p;refine xD ?_;refine xB ?_ ?_<;>intro h
 ·have h:x.closed=aP:=h;rw[ao h];refine xS ?_;refine gr eL (S,D,1) x U (W,K) ?_;refine X.dE (fh 9 1 _) ?_;exact nz (us:=[bu S]) (cap:=[]) hb hG (iw GG S D x) (.tmps U) ⟨_,⟨aO,0,U,U⟩,(show bS _ [own 9 1 aO 0 0 [],eL (S,D,0) x]from bA)⟩
 ·have h:¬x.closed=aP:=bQ;rw[aj h];refine xS ?_;refine cP (af1 GG K x.dir iP) ?_;rintro v B ⟨a,c,rfl,rfl⟩;refine xD ?_;refine gr eL (S,D,1) x U (W,K) ?_;exact nz (us:=[bu S]) (cap:=[]) hb hG (iw GG S D x) (.tmps U) ⟨_,⟨a,c,U,U⟩,bA⟩
abbrev aK4:Bs:=[71,101,116]
theorem CO(key:Bs)(iP:eZ x.dir<=1000000000)(tJ:OH (x.dir.get key).1.place):TR be GG 45 #[bu S,bn key] [eL (S,D,0) x,cJ D d] (dC λv B=>∃u,v=.tuple #[bn (x.get d key).2.1,.bool (x.get d key).2.2.1,u]/\sy aK4 (x.get d key).2.2.2 [eL (S,D,0) x,cJ D (x.get d key).1] u B):=by
 refine bZ U λb O hb hG=>xS ?_;refine cP (qE GG S D x) ?_;rintro v B ⟨rfl,rfl⟩;refine xD ?_;refine De hb U U (xS ?_);refine cP (aK3 S D 1 x d key iP tJ) ?_;rintro v B ⟨rfl,rfl⟩;dsimp only[bh,bk,bj];generalize x.get d key=z at*;obtain⟨d1,val,is,e⟩:=z;dsimp only;refine xS ?_;refine cP (iv GG aK4 e) ?_;rintro v B (⟨he,rfl,rfl⟩|⟨he,p,rfl,rfl⟩)
 ·refine xD ?_;exact nz (us:=[bu S]) (cap:=[]) hb hG (iw GG S D x) (.tmps U) ⟨_,⟨_,U,.ok' he⟩,bA⟩
 ·refine xD ?_;exact nz (us:=[bu S]) (cap:=[]) hb hG (iw GG S D x) (.tmps U) ⟨_,⟨_,U,.err he⟩,bA⟩
abbrev aK5:Bs:=[80,117,116]
def gW.put(x:gW)(d:cd)(key val:Bs):(gW×cd)×ae:=
 if x.closed=aP then((x,d),153)
 else if Eh key=aQ then((x,d),151)
 else if 2048<val.length then((x,d),152)
 else if x.writes 1=0 then x.write d ⟨0,1,key,val⟩
 else((x,d),x.writes 1)
theorem JU(key val:Bs)(hl:d.files.length<=100000000000)(hw:x.wr.lZ)(iP:eZ x.dir+1<=1000000000):TR be GG 43 #[bu S,bn key,bn val] [eL (S,D,0) x,cJ D d] (dC λv B=>sy aK5 (x.put d key val).2 [eL (S,D,0) (x.put d key val).1.1,cJ D (x.put d key val).1.2] v B):=by
 refine jy U λb O hb hG=>?_
 refine xE (qE GG S D x) ?_
 refine De hb U U (xS ?_)
 generalize cD:x.put d key val=res
 unfold gW.put at cD
 have CD:Eh key=(decide (1<=key.length)&&decide (key.length<=64)):=U
 refine X.l8 eL (S,D,1) U λp=>?_
 obtain⟨W,K⟩:=p
 dsimp only[bh,bk,bj]
 refine cM hG (JR GG S D W K 1 x 1 eK) U U U (bA (A:=[bx S 145 (x.cs D W K 1),bx W 177 (x.wr.cs D),jc K x.dir,cJ D d])) ?_
 rintro v B ⟨rfl,rfl⟩
 refine xD ?_
 refine iK (ι:=aA) (λ_=>([(7,.int .i64 res.2)],[eL (S,D,1) res.1.1,cJ D res.1.2])) ?fin ?main
 case main=>
  intro KK dF;refine xB ?_ ?_<;>intro h1
  ·have h1:x.closed=aP:=h1;rw[ao h1]at cD;exact T8
  have h1:¬x.closed=aP:=bQ;rw[aj h1]at cD;refine xS ?_;rw[<-CD];refine xB ?_ ?_<;>intro h2
  ·have h2:Eh key=aQ:=bQ;rw[ao h2]at cD;exact T8
  have h2:¬Eh key=aQ:=bQ;rw[aj h2]at cD;refine xB ?_ ?_<;>intro h3
  ·have h3:2048<val.length:=bQ;rw[ao h3]at cD;exact T8
  have h3:¬2048<val.length:=bQ;rw[aj h3]at cD;refine xB ?_ ?_<;>intro h4
  ·have h4:x.writes 1=0:=bQ;rw[ao h4]at cD;subst cD;refine xS ?_;refine gr eL (S,D,1) x U (W,K) ?_;refine xE (JS S D 1 x d ⟨0,1,key,val⟩ hl hw iP) ?_;exact X.W (dF ())
  have h4:¬x.writes 1=0:=bQ;rw[aj h4]at cD;exact T8
 case fin=>
  intro _;dsimp only;obtain⟨⟨x1,d1⟩,e⟩:=res;dsimp only;refine xS ?_;refine cP (iv GG aK5 e) ?_;exact bN3
abbrev JV:Bs:=[83,121,110,99]
def gW.sync(x:gW)(d:cd):(gW×cd)×ae:=
 if x.closed=aP then((x,d),153)else if x.broken=aP then((x,d),155)
 else((gW.sw {x with wr:=(WD.sync (x.wr,d)).1.1} (WD.sync (x.wr,d)).2,(WD.sync (x.wr,d)).1.2),(WD.sync (x.wr,d)).2)
theorem Hd:TR be GG 46 #[bu S] [eL (S,D,0) x,cJ D d] (dC λv B=>sy JV (x.sync d).2 [eL (S,D,0) (x.sync d).1.1,cJ D (x.sync d).1.2] v B):=by
 refine dH U λb O hb hG=>?_;refine xE (qE GG S D x) ?_;refine De hb U U (xS ?_);generalize cD:x.sync d=res;unfold gW.sync at cD;refine X.l8 eL (S,D,1) U λp=>?_;obtain⟨W,K⟩:=p;refine xD ?_;refine xB ?_ ?_<;>intro h1
 ·have h1:x.closed=aP:=h1;rw[ao h1]at cD;subst cD;refine xS ?_;refine gr eL (S,D,1) x U (W,K) ?_;refine cP (iv GG JV 153) ?_;exact mz0
 have h1:¬x.closed=aP:=bQ;rw[aj h1]at cD;refine xB ?_ ?_<;>intro h2
 ·have h2:x.broken=aP:=h2;rw[ao h2]at cD;subst cD;refine xS ?_;refine gr eL (S,D,1) x U (W,K) ?_;refine cP (iv GG JV 155) ?_;exact mz0
 have h2:¬x.broken=aP:=bQ;rw[aj h2]at cD;subst cD;refine xH (Ha W D (x.wr,d)) ?_;generalize WD.sync (x.wr,d)=z at*;obtain⟨⟨w1,d1⟩,e⟩:=z;dsimp only;refine xS ?_;refine cM hG (Bt GG S D W K 1 {x with wr:=w1} e) U U U (bA (A:=[bx S 145 (x.cs D W K 1),bx W 177 (w1.cs D),jc K x.dir,cJ D d1])) ?_;rintro v B ⟨rfl,rfl⟩;refine xD ?_;refine gr eL (S,D,1) (gW.sw {x with wr:=w1} e) U (W,K) ?_;refine cP (iv GG JV e) ?_;rintro v B (⟨he,rfl,rfl⟩|⟨he,p,rfl,rfl⟩)
 ·refine xD ?_;exact nz (l:=[.nilIface]) (us:=[bu S]) (cap:=[]) hb hG (iw GG S D (gW.sw {x with wr:=w1} e)) (.tmps U) ⟨_,sy.ok' he,bA⟩
 ·refine xD ?_;exact nz (l:=[.iface 178 (bu p)]) (us:=[bu S]) (cap:=[]) hb hG (iw GG S D (gW.sw {x with wr:=w1} e)) (.tmps U) ⟨_,sy.err he,bA⟩
abbrev He:Bs:=[67,108,111,115,101]
def gW.close(x:gW)(d:cd):(gW×cd)×ae:=
 if x.closed=aP then((x,d),153)else if x.broken=aP then(({x with closed:=aP},d),0)
 else(({x with closed:=aP,wr:=(WD.close (x.wr,d)).1.1},(WD.close (x.wr,d)).1.2),(WD.close (x.wr,d)).2)
theorem DO:TR be GG 50 #[bu S] [eL (S,D,0) x,cJ D d] (dC λv B=>sy He (x.close d).2 [eL (S,D,0) (x.close d).1.1,cJ D (x.close d).1.2] v B):=by
 refine dH U λb O hb hG=>?_;refine xE (qE GG S D x) ?_;refine De hb U U (xS ?_);generalize cD:x.close d=res;unfold gW.close at cD;refine X.l8 eL (S,D,1) U λp=>?_;obtain⟨W,K⟩:=p;refine xD ?_;refine xB ?_ ?_<;>intro h1
 ·have h1:x.closed=aP:=h1;rw[ao h1]at cD;subst cD;refine xS ?_;refine gr eL (S,D,1) x U (W,K) ?_;refine cP (iv GG He 153) ?_;exact mz0
 have h1:¬x.closed=aP:=bQ;rw[aj h1]at cD;refine xB ?_ ?_<;>intro h2
 ·have h2:x.broken=aP:=h2;rw[ao h2]at cD;subst cD;refine xS ?_;refine gr eL (S,D,1) {x with closed:=aP} U (W,K) ?_;exact nz (l:=[.nilIface]) (us:=[bu S]) (cap:=[]) hb hG (iw GG S D {x with closed:=aP}) (.tmps U) ⟨_,sy.ok,bA⟩
 have h2:¬x.broken=aP:=bQ;rw[aj h2]at cD;subst cD;refine xH (DN W D (x.wr,d)) ?_;generalize WD.close (x.wr,d)=z at*;obtain⟨⟨w1,d1⟩,e⟩:=z;dsimp only;refine xS ?_;refine gr eL (S,D,1) {x with closed:=aP,wr:=w1} U (W,K) ?_;refine cP (iv GG He e) ?_;rintro v B (⟨he,rfl,rfl⟩|⟨he,p,rfl,rfl⟩)
 ·refine xD ?_;exact nz (l:=[.nilIface]) (us:=[bu S]) (cap:=[]) hb hG (iw GG S D {x with closed:=aP,wr:=w1}) (.tmps U) ⟨_,sy.ok' he,bA⟩
 ·refine xD ?_;exact nz (l:=[.iface 178 (bu p)]) (us:=[bu S]) (cap:=[]) hb hG (iw GG S D {x with closed:=aP,wr:=w1}) (.tmps U) ⟨_,sy.err he,bA⟩
structure gW.ok(x:gW)(N:ab):Prop where
 wr:x.wr.lZ
 dir:x.dir.ok
 sum:eZ x.dir<=N
theorem gW.ok.mono{x:gW}{M:ab}(h:x.ok N)(hm:N<=M):x.ok M:=⟨h.wr,h.dir,bo h.sum hm⟩
theorem Af{x:gW}(h:x.ok N)(d:cd)(r0:Rec):(x.write d r0).1.1.ok (N+1)/\(x.write d r0).1.2.files.length<=d.files.length+1:=by
 unfold gW.write;dsimp only;have hg:=Ml (x.wr,d) ⟨x.last+1,r0.kind,r0.key,r0.val⟩ h.wr;have hl:=P6 (x.wr,d) ⟨x.last+1,r0.kind,r0.key,r0.val⟩;split
 ·exact⟨⟨hg,h.dir,bo h.sum (iz _)⟩,hl⟩
 ·have ha:=rP h.dir [⟨r0.key,x.last+1,r0.kind,(WD.put (x.wr,d) ⟨x.last+1,r0.kind,r0.key,r0.val⟩).2.1,aP,EJ ⟨x.last+1,r0.kind,r0.key,r0.val⟩⟩];have hs:=h.sum;exact⟨⟨hg,ha.1,by grind⟩,hl⟩
abbrev yl:Bs:=[68,101,108,101,116,101]
def gW.want(x:gW):Y Bs->Y Bs->ah (Y Bs)
 |[],acc=>aN acc
 |k::r,acc=>if Eh k=aQ then aO else gW.want x r (if(x.dir.get k).2=0/\k∉acc then acc++[k]else acc)
def u6:Y Bs->gW->cd->ae->(gW×cd)×ae
 |[],x,d,e=>((x,d),e)
 |k::r,x,d,e=>if e≠0 then((x,d),e)else u6 r (x.write d ⟨0,2,k,[]⟩).1.1 (x.write d ⟨0,2,k,[]⟩).1.2 (x.write d ⟨0,2,k,[]⟩).2
def gW.delete(x:gW)(d:cd)(ks:Y Bs):(gW×cd)×ae:=
 if x.closed=aP then((x,d),153)else
 match x.want ks []with
 |none=>((x,d),151)
 |some w=>u6 w x d (x.writes w.length)
theorem OI(x:gW):∀(ks acc w:Y Bs),x.want ks acc=aN w->w.length<=acc.length+ks.length
 |[],acc,w,h=>by cases h;exact bz _
 |k::r,acc,w,h=>by
  unfold gW.want at h;split at h
  ·cases h
  ·have:=OI x r _ w h
   grind
theorem Bu(a:ah aX)(n c:ab)(ks:Y Bs)(hn:ks.length=n)(N:ab)(hx:x.ok N)(hN:N+n<=900000000)(hl:d.files.length<=90000000000):TR be GG 44 #[bu S,.slice a n c] [eL (S,D,0) x,cJ D d,dp (cy Ee) 1 a ks] (dC λv B=>sy yl (x.delete d ks).2 [eL (S,D,0) (x.delete d ks).1.1,cJ D (x.delete d ks).1.2] v B):=by
 refine bZ U λb O hb hG=>?_
 refine xE (qE GG S D x) ?_
 refine De hb U U (xS ?_)
 subst hn
 generalize cD:x.delete d ks=res
 unfold gW.delete at cD
 have qK:=hx.sum
 refine X.l8 eL (S,D,1) U λp=>?_
 obtain⟨W,K⟩:=p
 refine xD ?_
 refine xB ?_ ?_<;>intro h1
 ·have h1:x.closed=aP:=h1;rw[ao h1]at cD;subst cD;refine xS ?_;refine gr eL (S,D,1) x U (W,K) ?_;refine cP (iv GG yl 153) ?_;exact mz0
 have h1:¬x.closed=aP:=bQ
 rw[aj h1]at cD
 refine xS ?_
 refine X.dE (fh 9 1 _) ?_
 generalize hW0:x.want ks []=W0 at*
 refine fR [0,25] [0] (ι:={z:ab×(ah aX×ab)×Y Bs // z.1<=ks.length/\z.2.2.length<=z.1/\x.want (ks.drop z.1) z.2.2=W0}) (λz q_=>(5,.slice z.1.2.1.1 z.1.2.2.length z.1.2.1.2)::(26,bR ks.length)::(27,bR z.1.1)::q_) (λz q_=>own 9 1 z.1.2.1.1 z.1.2.2.length z.1.2.1.2 (z.1.2.2.flatMap Ee)::q_) (λz=>ks.length - z.1.1) ⟨(0,(aO,0),[]),bp _,bz _,hW0⟩ ?_
 rintro⟨⟨i,⟨a5,c5⟩,w⟩,hi,HY,hw⟩ ih
 dsimp only at hi HY hw ih ⊢
 refine xB ?_ ?_<;>intro h2
 ·have hi:i<ks.length:=bQ;rw[bP hi]at hw;refine xS ?_;refine dJ U U U U U hi U λbl o=>?_;generalize ks[i]=k at*;have CD:Eh k=(decide (1<=k.length)&&decide (k.length<=64)):=U;unfold gW.want at hw;refine xS ?_;rw[<-CD];refine xB ?_ ?_<;>intro h3
  ·have h3:Eh k=aQ:=bQ;rw[ao h3]at hw;subst hw;have cD:((x,d),151)=res:=cD;subst cD;refine xS ?_;refine gr eL (S,D,1) x U (W,K) ?_;refine cP (iv GG yl 151) ?_;exact mz0
  have h3:¬Eh k=aQ:=bQ;rw[aj h3]at hw;refine xH (Lm GG K x.dir k bw) ?_;generalize x.dir.get k=g at*;refine xA ?_;intro b8;refine yT 47 (g.2=0) (¬g.2=0) ?_ ?_<;>intro h4
  ·refine xS ?_;refine cP (nG (e:=9) (c:=c5) (FD GG a5 _ c5 w k U bw) bt9 U (λ_=>rfl)) ?_;rintro v B ⟨_,⟨rfl,rfl⟩,rfl⟩;refine xD ?_;refine yB (k∉w) (¬k∉w) ?_ ?_<;>intro h5
   ·rw[ao ⟨h4,h5⟩]at hw;refine xZ ?_;intro b55;refine fH (k) U U U U bw U cE cE cE cE cE bw λa56 c56=>xS ?_;exact X.W (ih ⟨(i+1,(a56,c56),w++[k]),by omega,by grind,hw⟩ bQ)
   ·rw[aj (λh=>h5 h.2)]at hw;exact bf8
  ·rw[aj (λh=>h4 h.1)]at hw;exact bf8
 have gj:i=ks.length:=bQ
 subst gj
 rw[cx (bz _)]at hw
 have hw:aN w=W0:=hw
 subst hw
 have cD:u6 w x d (x.writes w.length)=res:=cD
 clear ih h2 hi hW0
 refine xS ?_
 refine cM hG (JR GG S D W K 1 x w.length bw) U U U (bA (A:=[bx S 145 (x.cs D W K 1),bx W 177 (x.wr.cs D),jc K x.dir,cJ D d,own 9 1 a5 w.length c5 (w.flatMap Ee)])) ?_
 rintro v B ⟨rfl,rfl⟩
 dsimp only[bh,bk,bj]
 refine dR a5 Ee w U U (λ_=>rfl) λ_=>?_
 refine gr eL (S,D,1) x U (W,K) ?_
 generalize x.writes w.length=e0 at*
 refine xS ?_
 refine nk (ι:=aA) (λ_=>([(10,.int .i64 res.2)],[eL (S,D,1) res.1.1,cJ D res.1.2])) ?fin ?main
 case main=>
  intro KK dF;refine fR [0,62] [0,1] (ι:={z:ab×gW×cd×ae // z.1<=w.length/\z.2.1.ok (N+z.1)/\z.2.2.1.files.length<=d.files.length+z.1/\u6 (w.drop z.1) z.2.1 z.2.2.1 z.2.2.2=res}) (λz q_=>(10,.int .i64 z.1.2.2.2)::(63,bR w.length)::(64,bR z.1.1)::q_) (λz q_=>eL (S,D,1) z.1.2.1::cJ D z.1.2.2.1::q_) (λz=>w.length - z.1.1) ⟨(0,x,d,e0),bp _,hx,bz _,cD⟩ ?_;rintro⟨⟨i,x1,d1,e1⟩,hi,jT,zp,Lj⟩ ih;dsimp only at hi jT zp Lj ih ⊢;have hsm1:=jT.sum;refine xB ?_ ?_<;>intro h2
  ·have hi:i<w.length:=bQ;rw[bP hi]at Lj;refine xS ?_;refine dJ U U U U U hi U λbl o=>?_;generalize w[i]=k at*;unfold u6 at Lj;refine yB (e1≠0) (¬e1≠0) ?_ ?_<;>intro h3
   ·rw[ao h3]at Lj;subst Lj;exact JH
   ·rw[aj h3]at Lj;have hwo:=Af jT d1 ⟨0,2,k,[]⟩;refine xQ (JS S D 1 x1 d1 ⟨0,2,k,[]⟩ bw jT.wr bw) ?_;generalize x1.write d1 ⟨0,2,k,[]⟩=z at*;refine xS ?_;exact X.W (ih ⟨(i+1,z.1.1,z.1.2,z.2),by dsimp only;omega,hwo.1,by have:=hwo.2;dsimp only;omega,Lj⟩ oQ)
  ·have gj:i=w.length:=bQ;subst gj;rw[cx (bz _)]at Lj;have Lj:((x1,d1),e1)=res:=Lj;subst Lj;exact JH
 case fin=>
  intro _;dsimp only;clear cD;obtain⟨⟨x1,d1⟩,e⟩:=res;dsimp only;refine xS ?_;refine cP (iv GG yl e) ?_;exact bN3
def stX(S:ab)(k:ab×ae×ae):bG:=ex λq:ae×ae×ai×ab×ab×ae×ai×ai=>[bx S 145 [.int .i32 q.1,.int .u32 q.2.1,bu k.1,.int .i64 k.2.1,.int .i64 k.2.2,.bool q.2.2.1,bu q.2.2.2.1,bu q.2.2.2.2.1,.int .u64 q.2.2.2.2.2.1,.bool q.2.2.2.2.2.2.1,.bool q.2.2.2.2.2.2.2]]
instance FP.stX(H rest:Y bG)(S D:ab)(lim ev l u t:ae)(f c br:ai)(W K:ab)[hf:FB H S 145 [.int .i32 l,.int .u32 u,bu D,.int .i64 lim,.int .i64 ev,.bool f,bu W,bu K,.int .u64 t,.bool c,.bool br] rest]:FP H (stX S (D,lim,ev)) rest:=
 ⟨hf.out.trans (iY (f:=λq:ae×ae×ai×ab×ab×ae×ai×ai=>[bx S 145 [.int .i32 q.1,.int .u32 q.2.1,bu D,.int .i64 lim,.int .i64 ev,.bool q.2.2.1,bu q.2.2.2.1,bu q.2.2.2.2.1,.int .u64 q.2.2.2.2.2.1,.bool q.2.2.2.2.2.2.1,.bool q.2.2.2.2.2.2.2]]) (l,u,f,W,K,t,c,br) rest)⟩
abbrev CP:Bs:=[77,101,114,103,101]
def gW.R5(x:gW):Prop:=64<=x.ed/\x.ed<=1048576/\0<=x.every/\x.every<=1000
abbrev gW.wr0(x:gW):Wr:=⟨x.ed.toNat,x.every.toNat,0,0,0,0,aQ⟩
def aK6(a b:az):az:=if a<b then b else a
def gW.mg1(x:gW)(d:cd):(gW×cd)×ae:=((gW.sw {x with wr:=(WD.close (x.wr,d)).1.1} (WD.close (x.wr,d)).2,(WD.close (x.wr,d)).1.2),(WD.close (x.wr,d)).2)
def gW.mg2(x:gW)(d:cd):(gW×cd)×ae:=
 (({gW.sw x (mJ d x.ed).2 with dir:=vJ (mJ d x.ed).1.all,last:=aK6 x.last (gQ (vJ (mJ d x.ed).1.all).top)},(mJ d x.ed).1),(mJ d x.ed).2)
def pY(q:(gW×cd)×ae):(gW×cd)×ae:=if q.2=0 then q.1.1.mg2 q.1.2 else q
def gW.merge(x:gW)(d:cd):(gW×cd)×ae:=
 if x.closed=aP then((x,d),153)else if x.broken=aP then((x,d),155)
 else(({(pY (x.mg1 d)).1.1 with wr:=(pY (x.mg1 d)).1.1.wr0},(pY (x.mg1 d)).1.2),(pY (x.mg1 d)).2)
theorem DP(hc:x.R5)(hl:d.files.length<=50000000000)(zp:(WD.close (x.wr,d)).1.2.files.length<=50000000000)(qx:(mJ (WD.close (x.wr,d)).1.2 x.ed).1.files.length<=100000000000):TR be GG 49 #[bu S] [eL (S,D,0) x,cJ D d] (dC λv B=>sy CP (x.merge d).2 [eL (S,D,0) (x.merge d).1.1,cJ D (x.merge d).1.2] v B):=by
 refine dH U λb O hb hG=>?_
 refine xE (qE GG S D x) ?_
 refine De hb U U (xS ?_)
 generalize cD:x.merge d=res
 unfold gW.merge at cD
 refine X.l8 eL (S,D,1) U λp=>?_
 obtain⟨W,K⟩:=p
 refine xD ?_
 refine xB ?_ ?_<;>intro h1
 ·have h1:x.closed=aP:=h1;rw[ao h1]at cD;subst cD;refine xS ?_;refine gr eL (S,D,1) x U (W,K) ?_;refine cP (iv GG CP 153) ?_;exact mz0
 have h1:¬x.closed=aP:=bQ
 rw[aj h1]at cD
 refine xB ?_ ?_<;>intro h2
 ·have h2:x.broken=aP:=h2;rw[ao h2]at cD;subst cD;refine xS ?_;refine gr eL (S,D,1) x U (W,K) ?_;refine cP (iv GG CP 155) ?_;exact mz0
 have h2:¬x.broken=aP:=bQ
 rw[aj h2]at cD
 refine xH (DN W D (x.wr,d)) ?_
 have qM:x.mg1 d=((gW.sw {x with wr:=(WD.close (x.wr,d)).1.1} (WD.close (x.wr,d)).2,(WD.close (x.wr,d)).1.2),(WD.close (x.wr,d)).2):=U
 generalize WD.close (x.wr,d)=z at*
 obtain⟨⟨w1,d1⟩,e⟩:=z
 dsimp only at qM zp qx ⊢
 rw[qM]at cD
 clear qM
 refine xS ?_
 refine cM hG (Bt GG S D W K 1 {x with wr:=w1} e) U U U (bA (A:=[bx S 145 (x.cs D W K 1),bx W 177 (w1.cs D),jc K x.dir,cJ D d1])) ?_
 rintro v B ⟨rfl,rfl⟩
 refine xD ?_
 obtain⟨x1,jT⟩:∃x1,x1=gW.sw {x with wr:=w1} e:=⟨_,U⟩
 have hlim:x1.ed=x.ed:=WA
 have Fu:x1.R5:=by rw[jT];exact hc
 have hdr:x1.dir=x.dir:=WA
 have hww:x1.wr=w1:=WA
 rw[<-jT]at cD ⊢
 rw[<-hlim]at qx
 rw[<-hdr,<-hww]
 clear jT hdr hww hlim hc
 have hm3:pY ((x1,d1),e)=if e=0 then x1.mg2 d1 else((x1,d1),e):=U
 generalize pY ((x1,d1),e)=q at*
 refine iK (ι:={z:ab×ab // q.1.1.R5}) (λz=>([(0,bu S),(3,.int .i64 q.2)],[bx S 145 (q.1.1.cs D z.1.1 z.1.2 1),bx z.1.1 177 (q.1.1.wr.cs D),jc z.1.2 q.1.1.dir,cJ D q.1.2])) ?fin ?main
 case main=>
  intro KK dF;refine yB (e=0) (¬e=0) ?_ ?_<;>intro h3
  ·rw[ao h3]at hm3;subst h3;have KC:x1.mg2 d1=(({gW.sw x1 (mJ d1 x1.ed).2 with dir:=vJ (mJ d1 x1.ed).1.all,last:=aK6 x1.last (gQ (vJ (mJ d1 x1.ed).1.all).top)},(mJ d1 x1.ed).1),(mJ d1 x1.ed).2):=U;refine xS ?_;refine fG (sG [0,1,2,3,4,5,6,7,8,9]) [stX S (D,x1.ed,x1.every)] U ?_;apply dB [0,1,2,3,4,5,6,7,8,9] U U U
   ·intro p hp;refine X.l8 stX S U λq=>xD ?_;refine gr stX S (D,x1.ed,x1.every) U q ?_;exact hp
   ·rfl
   ·rfl
   refine xH (ai9 D d1 x1.ed zp) ?_;generalize mJ d1 x1.ed=r at*;obtain⟨d2,e2⟩:=r;dsimp only at KC qx ⊢;refine xS ?_;refine cM hG (Bt GG S D W K 1 x1 e2) U U U (bA (A:=[bx S 145 (x1.cs D W K 1),bx W 177 (x1.wr.cs D),jc K x1.dir,cJ D d2])) ?_;rintro v B ⟨rfl,rfl⟩;refine xD ?_;refine cM hG (Wz D d2 qx) U U U (bA (A:=[cJ D d2,bx S 145 ((x1.sw e2).cs D W K 1),bx W 177 (x1.wr.cs D)])) ?_;rintro v B ⟨K2,rfl,rfl⟩;dsimp only[bh,bk,bj];refine qV D λeI=>?_;have hds:eZ (vJ d2.all)<=1000000000:=by
    have h1:=(R4 (ni d2.all)).2;have h2:=sg d2.all;rw[si eI]at h2;have h3:=eI.yA;have h4:=eI.le;have h5:=eI.cap;unfold vJ;omega
   have Il:=JG (vJ d2.all);have hmx:(if((x1.last.toNat:ab):ae)<((vJ d2.all).top:ab)then(((vJ d2.all).top:ab):ae)else((x1.last.toNat:ab):ae))=(((aK6 x1.last (gQ (vJ d2.all).top)).toNat:ab):ae):=by
    grind [UInt64.toNat_ofNat',aK6,UInt64.lt_iff_toNat_lt]
   generalize vJ d2.all=dr at*;refine xS ?_;refine fU 10 [0] ?_;refine xL [0,1,2,3,4,5,6,7,8,9] ?_;refine xE (af3 GG K2 dr hds) ?_;rw[hmx];refine xS ?_;rw[hm3,KC]at dF;exact X.W (dF ⟨(W,K2),Fu⟩)
  ·rw[aj h3]at hm3;subst hm3;refine xS ?_;exact X.W (dF ⟨(W,K),Fu⟩)
 case fin=>
  rintro⟨⟨W,K⟩,hcq⟩
  dsimp only
  subst cD
  clear hm3 zp qx
  obtain⟨⟨x2,d2⟩,e2⟩:=q
  dsimp only at hcq ⊢
  refine xS ?_
  refine iK (ι:=ab) (λW2=>([(3,.int .i64 e2)],[eL (S,D,1) {x2 with wr:=x2.wr0},cJ D d2])) ?f2 ?m2
  case m2=>
   intro KK dF;refine fG (sG [0,1,2,3,4,5,6,7,8,9,10,11,12,13,14,16,17,18]) [stX S (D,x2.ed,x2.every)] U ?_;apply dB [0,1,2,3,4,5,6,7,8,9,10,11,12,13,14] U U U
   ·intro p hp;refine X.l8 stX S U λq=>xD ?_;refine gr stX S (D,x2.ed,x2.every) U q ?_;exact hp
   ·rfl
   ·rfl
   refine xS ?_;refine cP (NW GG D x2.ed x2.every) ?_;rintro v B (⟨tD,rfl,rfl⟩|⟨_,W2,rfl,rfl⟩)
   ·exact aD hcq tD
   ·refine xD ?_;refine xL [17,18] ?_;refine xS ?_;refine gr eL (S,D,1) {x2 with wr:=x2.wr0} U (W2,K) ?_;exact X.W (dF W2)
  case f2=>
   intro W2;dsimp only;refine xS ?_;refine cP (iv GG CP e2) ?_;rintro v B (⟨he,rfl,rfl⟩|⟨he,p,rfl,rfl⟩)
   ·refine xD ?_;exact nz (l:=[.nilIface]) (us:=[bu S]) (cap:=[]) hb hG (iw GG S D {x2 with wr:=x2.wr0}) (.tmps U) ⟨_,sy.ok' he,bA⟩
   ·refine xD ?_;exact nz (l:=[.iface 178 (bu p)]) (us:=[bu S]) (cap:=[]) hb hG (iw GG S D {x2 with wr:=x2.wr0}) (.tmps U) ⟨_,sy.err he,bA⟩
end
section
variable(e:ae)(s:Bs)(D:ab)(d:cd)(lj:ai)
abbrev Hf:Bs:=[79,112,101,110]
def Hg(ed every:ae):Prop:=64<=ed/\ed<=1048576/\0<=every/\every<=1000
instance(ed every:ae):Decidable (Hg ed every):=by unfold Hg;infer_instance
def mC(d:cd)(lj:ai):cd×aB ae Sal:=if lj=aP then zJ d else uU d
def gX(d:cd)(ed every:ae)(lj:ai):cd×aB ae (gW×Sal):=
 if ¬Hg ed every then(d,.error 150)else
 match(mC d lj).2 with
 |.error e=>((mC d lj).1,.error e)
 |.ok z=>if(lI (mC d lj).1).2≠0 then((lI (mC d lj).1).1,.error (lI (mC d lj).1).2)
  else((lI (mC d lj).1).1,.ok (⟨ed,every,lj,⟨ed.toNat,every.toNat,0,0,0,0,aQ⟩,z.dir,z.top,aQ,aQ⟩,z))
theorem R6{d:cd}{lj:ai}{e:ae}(h:(mC d lj).2=.error e):e≠0:=by
 grind [mC,zJ,G8,uU,uV]
def sB(D:ab)(r:cd×aB ae (gW×Sal))(v:aR)(B:Y bG):Prop:=match r.2 with
 |.error e=>e≠0/\∃p,v=.tuple #[.pointer aO,.agg z89.toArray,.iface 178 (bu p)]/\B=[bx p 180 [bn Hf,.iface 23 (.int .i64 e)],cJ D r.1]
 |.ok z=>∃S fa fn fc,v=.tuple #[bu S,.agg #[.slice fa fn fc,.int .u64 z.2.top.toNat,.int .i64 z.2.cG,.int .i64 z.2.dP],.nilIface]/\B=[eL (S,D,0) z.1,cJ D r.1]
theorem aK7(hl:d.files.length<=50000000000)(qx:∀m,gV d.all d.cap []=.ok m->(d.nO m.steps).1.files.length<=100000000000):
 TR be GG (if lj=aP then 67 else 66) #[bu D] [cJ D d] (dC (af7 D (mC d lj))):=by
 unfold mC
 cases lj
 ·exact V2 D d hl qx
 ·exact Wh D d hl
theorem Hh(ed every:ae)(lj:ai)(hl:d.files.length<=50000000000)(qx:∀m,gV d.all d.cap []=.ok m->(d.nO m.steps).1.files.length<=100000000000)(XI:(mC d lj).1.files.length<=100000000000):
 TR be GG 33 #[bu D,.agg #[.int .i64 ed,.int .i64 every,.bool lj]] [cJ D d] (dC (sB D (gX d ed every lj))):=by
 refine bZ U λb O hb hG=>?_
 generalize cD:gX d ed every lj=res
 unfold gX at cD
 refine xP ?_
 intro b3
 refine xA ?_
 intro b5
 refine cP (NW GG D ed every) ?_
 rintro v B (⟨hc,rfl,rfl⟩|⟨hc,W,rfl,rfl⟩)
 ·have hc:¬Hg ed every:=hc;rw[ao hc]at cD;subst cD;refine xD ?_;refine cP (iv GG Hf 150) ?_;rintro v B (⟨he,rfl,rfl⟩|⟨he,p,rfl,rfl⟩)
  ·cases he
  exact aj8
 have hc:Hg ed every:=hc
 rw[aj (λh=>h hc)]at cD
 refine xD ?_
 have herr:=@R6 d lj
 refine tq [0,3,5,7] [] (ι:={z:aR // af7 D (mC d lj) z []\/True}) (λz q_=>(9,.func (.func (if lj=aP then 67 else 66)) #[] #[])::q_) (λz q_=>q_) ?fin ?main
 case main=>
  intro KK dF;refine xB ?_ ?_<;>intro hf
  ·have hf:lj=aP:=hf;exact bg0
  ·have hf:lj=aQ:=bw;exact bg0
 case fin=>
  intro _;have Iu:=aK7 D d lj hl qx;have uD:CF be (if lj=aP then 67 else 66):=by
   cases lj
   ·exact(ax:CF be 66)
   ·exact(ax:CF be 67)
  generalize(if lj=aP then 67 else 66:ab)=fn at*;refine xS ?_;refine jd (fst:=[]) (us:=[bu D]) (cap:=[]) hG Iu U U U U bS.es ?_;intro v B hS;generalize mC d lj=q at*;obtain⟨d1,r⟩:=q;unfold af7 at hS;dsimp only at hS cD herr XI;cases r with
  |error e=>
   have h0:=herr U;obtain⟨rfl,rfl⟩:=hS;dsimp only at cD;subst cD;refine xD ?_;refine xA ?_;intro yP;refine bD 35 aQ U V3 (xS ?_);refine bD 39 aP U V3 (xS ?_);refine cP (iv GG Hf e) ?_;rintro v B (⟨he,rfl,rfl⟩|⟨he,p,rfl,rfl⟩)
   ·exact aD he h0
   exact aj8
  |ok z=>
   obtain⟨K,fa,fn,fc,rfl,rfl⟩:=hS;dsimp only at cD;refine xD ?_;refine xA ?_;intro yP;refine xH (R3 D d1 XI) ?_;generalize lI d1=s at*;obtain⟨d2,e⟩:=s;dsimp only at cD ⊢;refine yB (e≠0) (¬e≠0) ?_ ?_<;>intro h1
   ·rw[ao h1]at cD;subst cD;refine xS ?_;refine cP (iv GG Hf e) ?_;rintro v B (⟨he,rfl,rfl⟩|⟨he,p,rfl,rfl⟩)
    ·exact aD he h1
    exact aj8
   ·rw[aj h1]at cD;subst cD;refine xS ?_;refine ph [0,1,2,3,4,5,6,7,9] [5,1] ?_;refine xL [0,1,2,3,4,5,6,7,9] ?_;refine xP ?_;intro S;refine gr eL (S,D,0) ⟨ed,every,lj,⟨ed.toNat,every.toNat,0,0,0,0,aQ⟩,z.dir,z.top,aQ,aQ⟩ U (W,K) ?_;exact cT hb (.tmp U (.jf U cE (.tmp U .nil))) ⟨S,fa,fn,fc,U,U⟩
def ll(x:gW):Y Bs->cd->Y (Bs×Bs)×cd
 |[],d=>([],d)
 |k::r,d=>if(x.get d k).2.2.1=aP/\(x.get d k).2.2.2=0 then((k,(x.get d k).2.1)::(ll x r (x.get d k).1).1,(ll x r (x.get d k).1).2)else ll x r (x.get d k).1
def gW.keys(x:gW):Y Bs:=if x.closed=aP then[]else x.dir.keys
def gW.all(x:gW)(d:cd):Y (Bs×Bs)×cd:=ll x x.keys d
theorem JW(G:dA)(S:ab):TR be G 47 #[bu S] [] (dC λv B=>∃p,v=.func (.func 81) #[] #[bu p]/\B=[bx p 32 [bu S]]):=YS
instance:TIf be 62:=⟨_,Tryz.underlying62⟩
theorem T9(p S D:ab)(x:gW)(d:cd)(iP:eZ x.dir<=1000000000)(tJ:∀k,OH (x.dir.get k).1.place)(hk:x.keys.length<=1000000000):
 ITS be GG 81 [bu p] [bx p 32 [bu S],eL (S,D,0) x,cJ D d] [bx p 32 [bu S],eL (S,D,0) x,cJ D (x.all d).2] (λy:Bs×Bs=>[bn y.1,bn y.2]) (x.all d).1:=by
 refine ITS.mk λl I J hY=>?_
 refine bZ U λb O hb hG=>?_
 have uB:x.all d=ll x x.keys d:=U
 generalize x.all d=W at*
 refine xD ?_
 refine cP (sA S D x iP) ?_
 rintro v B ⟨a,c,rfl,rfl⟩
 have hkk:(if x.closed=aP then[]else x.dir.keys)=x.keys:=U
 rw[hkk]
 generalize x.keys=ks at*
 dsimp only[bh,bk,bj]
 refine dR a Ee ks U U (λ_=>rfl) λ_=>xS ?_
 refine fR [0,1,9] [4,3] (ι:={z:ab×Y (Bs×Bs)×cd // z.1<=ks.length/\W=(z.2.1++(ll x (ks.drop z.1) z.2.2).1,(ll x (ks.drop z.1) z.2.2).2)}) (λz q_=>(10,bR ks.length)::(11,bR z.1.1)::q_) (λz q_=>I z.1.2.1::cJ D z.1.2.2::q_) (λz=>ks.length - z.1.1) ⟨(0,[],d),bp _,uB⟩ ?_
 rintro⟨⟨i,pre,d1⟩,hi,hW⟩ ih
 dsimp only at hi hW ih ⊢
 refine xB ?_ ?_<;>intro h
 ·have hi:i<ks.length:=bQ;rw[bP hi]at hW;unfold ll at hW;refine xS ?_;refine dJ U U U U U hi U λbl o=>?_;generalize ks[i]=key at*;refine xS ?_;refine cP (CO S D x d1 key iP (tJ key)) ?_;generalize x.get d1 key=z at*;obtain⟨d2,val,is,e⟩:=z;dsimp only at hW ⊢;have skip:¬(is=aP/\e=0)->W=(pre++(ll x (ks.drop (i+1)) d2).1,(ll x (ks.drop (i+1)) d2).2):=bQ;have take:is=aP/\e=0->W=((pre++[(key,val)])++(ll x (ks.drop (i+1)) d2).1,(ll x (ks.drop (i+1)) d2).2):=bQ;clear hW;rintro v B ⟨u,rfl,B1,(⟨he,rfl,rfl⟩|⟨he,q,rfl,rfl⟩),rfl⟩
  ·refine xD ?_;refine xT 23 ?_ ?_<;>intro h2
   ·have h2:is=aP:=h2;have hw:=take ⟨h2,he⟩;have hy:=hY pre (key,val) (ll x (ks.drop (i+1)) d2).1 (by rw[hw];simp);refine xS ?_;refine mO U U U U U (xS ?_);refine tM hG hy U U U U ?_ ?_
    ·refine xD ?_;exact X.W (ih ⟨(i+1,pre++[(key,val)],d2),by omega,hw⟩ bQ)
    ·refine xD ?_;exact X.ret hb (.tmps U) ⟨_,.inr ⟨[],U⟩,(show bS _ [J]from bA)⟩
   ·have h2:¬is=aP:=bQ;have hw:=skip (λh=>h2 h.1);exact bg1
  ·have hw:=skip (λh=>he h.2);refine xD ?_;refine xT 23 ?_ ?_<;>intro h2
   ·refine xS ?_;refine mO U U U U U (xS ?_);exact bN4
   ·exact bg1
 ·have gj:i=ks.length:=bQ;subst gj;rw[cx (bz _)]at hW;have hW:W=(pre++[],d1):=hW;rw[bj]at hW;subst hW;exact ba5
def kD(c:au):Bs:=if 33<=c.toNat/\c.toNat<=126/\c≠37 then[c]else[37,ji (c.toNat / 16),ji (c.toNat%16)]
def fw(s:Bs):Bs:=if s=[]then[45]else if s=[45]then[37,50,100]else s.flatMap kD
theorem JX(c:au):1<=(kD c).length/\(kD c).length<=3:=by grind [kD]
theorem ym:∀(s:Bs),(s.flatMap kD).length<=3*s.length
 |[]=>bz _
 |c::r=>by
  have h1:=JX c;have h2:=ym r;rw[ei,bK,bL];omega
theorem gA:(fw s).length<=3*s.length+1:=by
 grind [fw,ym]
def d16:Bs:=[48,49,50,51,52,53,54,55,56,57,97,98,99,100,101,102]
theorem EL(n:ab)(h:n<d16.length):d16[n]=ji n:=by
 have:∀n:Fin 16,d16[n.val]'(Nat.lt_of_lt_of_le n.isLt eK)=ji n.val:=eK;exact this ⟨n,h⟩
theorem aj9(x:au):dS.wrap ((BitVec.ofInt dS.bits (x.toNat:ae)&&&BitVec.ofInt dS.bits 15).toNat:ae)=((x.toNat%16:ab):ae):=by
 have h:=x.toNat_lt
 have h1:(BitVec.ofInt dS.bits (x.toNat:ae)&&&BitVec.ofInt dS.bits 15).toNat=x.toNat%16:=by
  show(BitVec.ofInt 8 (x.toNat:ae)&&&BitVec.ofInt 8 15).toNat=_;rw[BitVec.toNat_and,BitVec.ofInt_natCast,BitVec.toNat_ofNat,Nat.mod_eq_of_lt h];exact Nat.and_two_pow_sub_one_eq_mod x.toNat 4
 grind [jm,iM]
theorem pR(hs:s.length<=1000000000000):TR be GG 158 #[bn s] [] (dX (bn (fw s))):=by
 refine dH U λb O hb hG=>?_;have cD:fw s=if s=[]then[45]else if s=[45]then[37,50,100]else s.flatMap kD:=U;generalize fw s=res at*;refine xS ?_;by_cases h1:s=[]
 ·subst h1;rw[ao U]at cD;subst cD;refine bD 7 aP U cE  ?_;exact xR
 ·rw[aj h1]at cD;refine bD 7 aQ U bQ (xS ?_);by_cases h2:s=[45]
  ·subst h2;exact bg2
  ·rw[aj h2]at cD;refine bD 9 aQ U bQ (xS ?_);refine kq U U λb3=>?_;refine Yq b3 U (xS ?_);refine Kn U U U λa c Jf=>xS ?_;refine X.loop (ι:={z:ab // z<=s.length}) (λz=>([(3,bu b3),(12,.slice (aN a) s.length c),(13,bR s.length),(14,bR z.1)],[QP b3 ((s.take z.1).flatMap kD),dp RB 1 (aN a) s])) (λz=>s.length - z.1)
    ⟨0,bp _⟩ (Sub.of U) (show bS _ [QP b3 [],dp RB 1 (aN a) s]from bA) ?_
   rintro⟨i,hi⟩ ih;dsimp only at hi ⊢;refine xB ?_ ?_<;>intro h
   ·have hi:i<s.length:=bQ;have ht:(s.take (i+1)).flatMap kD=(s.take i).flatMap kD++kD s[i]:=aK8;have nC:=ym (s.take i);rw[dG]at nC;have ih:=ih ⟨i+1,by omega⟩ bQ;dsimp only at ih;rw[ht]at ih;refine xS ?_;refine dJ U U U U U hi U λbl o=>?_;generalize s[i]=x at*;generalize(s.take i).flatMap kD=acc at*;refine xS ?_;have hx:=x.toNat_lt;by_cases hA:33<=x.toNat
    ·refine bD 20 aP U fD (xS ?_);by_cases hB:x.toNat<=126
     ·refine bD 24 aP U fD (xS ?_);by_cases hC:x=37
      ·subst hC;have tD:¬(33<=(37:au).toNat/\(37:au).toNat<=126/\(37:au)≠37):=λh=>h.2.2 U;refine bD 27 aQ U cE ?_;rw[kD,aj tD]at ih;refine xE (kb GG b3 acc 37 bw) ?_;refine jG (l:=d16) (j:=(37:au).toNat / 16) U U U U (xq .u8 (37:au).toNat 4 eK) aK9 ?_;rw[EL];refine xE (kb GG b3 (acc++[37]) (ji ((37:au).toNat / 16)) fD) ?_;refine jG (l:=d16) (j:=(37:au).toNat%16) U U U U (aj9 37) aK9 ?_;rw[EL];refine xE (kb GG b3 (acc++[37]++[ji ((37:au).toNat / 16)]) (ji ((37:au).toNat%16)) fD) ?_;rw[show acc++[37]++[ji ((37:au).toNat / 16)]++[ji ((37:au).toNat%16)]=acc++[37,ji ((37:au).toNat / 16),ji ((37:au).toNat%16)]from by simp];exact X.W ih
      ·have Qc:((x.toNat:ae)!=37)=aP:=bg3;refine bD 27 aP U Qc ?_;rw[kD,ao ⟨hA,hB,hC⟩]at ih;refine xE (kb GG b3 acc x bw) ?_;exact X.W ih
     ·have tD:¬(33<=x.toNat/\x.toNat<=126/\x≠37):=λh=>hB h.2.1;refine bD 24 aQ U fD ?_;exact bN5
    ·have tD:¬(33<=x.toNat/\x.toNat<=126/\x≠37):=λh=>hA h.1;refine bD 20 aQ U fD ?_;exact bN5
   ·have hi:i=s.length:=bQ;subst hi;rw[bV];refine xE (wz GG b3 (s.flatMap kD)) ?_;exact ak0
def eH(e:ae):Bs:=if e=0 then[111,107]else[101,114,114,111,114,32]++ib e
theorem nS(h0: -9223372036854775808<=e)(h1:e<=9223372036854775807):TR be GG 111 #[.int .i64 e] [] (dX (bn (eH e))):=by
 refine dH U λb O hb hG=>?_;unfold eH;have hl:=eJ e h0 h1;refine xS ?_;by_cases h:e=0
 ·subst h;refine bD 4 aP U cE  ?_;exact xR
 ·rw[aj h];refine bD 4 aQ U bQ  ?_;refine xJ (xG e h0 h1) ?_;exact xR
instance:QN be 147:=⟨by kernel_rfl⟩
theorem u9(c:Bs)(e:ae)(v:aR)(A:Y bG)(h:aK2 c e v A)(h0: -9223372036854775808<=e)(h1:e<=9223372036854775807):TR be GG 100 #[v] A (dX (bn (eH e))):=by
 refine dH U λb O hb hG=>?_;rcases h with⟨rfl,rfl,rfl⟩|⟨he,p,rfl,rfl⟩
 ·exact bg4
 ·refine xS ?_;refine mO U U U U U  ?_;refine xA ?_;intro b3;refine rN U U U (xS ?_);refine cP (Nv p b3 c e 0) ?_;rintro _ _ ⟨rfl,rfl⟩;refine xD ?_;refine xJ (nS e h0 h1) ?_;exact xR
end
end Go.Proofs
namespace Go.Proofs
open Go.Sl
open Go.RowKit Go.Sort
set_option maxRecDepth 8000
theorem R7(i:ab)(hi:i<100):TR be GG 251 #[.int .i64 i] [] (dX (bn (bB i))):=by
 refine TR.below U λw=>?_
 refine(Any.internal_strconv_small {tf with} i hi w).mono ?_
 grind [Below.refl]
theorem WE(u:ab)(h1:1<=u)(h2:u<18446744073709551616):TR be GG 252 #[.int .u64 u] [] (dX (.int .i64 (gJ u))):=by
 intro O w hG hs;obtain⟨t,f,hp⟩:=hG.1.bq7;refine(Any.internal_strconv_numDigits {tf with} u h1 h2 w (F4 hs iB hp)).mono ?_;rintro e w' ⟨rfl,rfl⟩;exact⟨[],⟨U,U⟩,hs⟩
theorem bN6(u:ab)(hu:u<18446744073709551616):gJ u<=20:=by
 by_cases h:u=0
 ·grind [Lib.nDigits_small]
 ·have:=Lib.numDigits_eq u bw hu;split at this<;>omega
theorem aL0(G:dA)(e0 g c u:ab)(h2:u<18446744073709551616)(xs:Y aR)(hx:xs=cQ (gJ u) (.int .u8 0)):TR be G 253 #[.slice (aN ⟨g,0,aO⟩) (gJ u) c,.int .u64 u] [own e0 1 (aN ⟨g,0,aO⟩) (gJ u) c xs] (dC λv B=>v=.tuple #[]/\B=[own e0 1 (aN ⟨g,0,aO⟩) (gJ u) c ((bB u).map gT)]):=by
 intro O w _ hs;subst hx;rcases eR hs with⟨h,_⟩|⟨g',cur,h,h3,h6,h7,h8,h9,vQ⟩
 ·cases h
 ·cases h;have hb:=fF vQ;rw[Nat.mul_one]at h9;have Dj:∀j,j<gJ u->cur[j]?=aN (.int .u8 0):=λj hj=>by
   have:(cur.toList.take (gJ u))[j]?=aN (.int .u8 0):=bQ
   grind
  have hH:Holds (fun(b:au)=>gf .u8 (b.toNat:ae)) w g 0 (Array.replicate (gJ u) (0:au)):=λj hj=>by
   have hj':j<gJ u:=bQ;refine⟨?_,by grind [World.frozen?]⟩;rw[getElem!_pos _ j hj];simp[gl,hb,Dj j hj']
  have hf:=Any.internal_strconv_formatBase10 Kq g 0 c u (Array.replicate (gJ u) 0) w hH (by rw[Array.size_replicate];exact Lib.lt_pow_nDigits u) h2 (by rw[Array.size_replicate];have:=bN6 u h2;omega);rw[Array.size_replicate]at hf;refine hf.mono ?_;rintro e w' ⟨rfl,n,v',dk,rfl,hF⟩;refine⟨_,⟨U,U⟩,gY (cur:=putCells (fun(b:au)=>gf .u8 (b.toNat:ae)) 0 dk cur) ?_ ?_ h6 h7 (by grind [putCells]) ?_⟩
  ·refine B3 vQ (b':=g) ⟨U,U,U,by simp_all,λk hk mf=>?_⟩ (bW _ _) ?_ (.inl U);all_goals grind [putRow,mapBlock,World.drewN,onCells]
  ·simp[Lib.decDigits_length]
  ·have zW:=hF.size
   apply fq
   grind [Lib.row_is_numeral,Lib.decDigits_length,putCells,gT]
instance:XD be 389 24 5:=⟨Tryz.underlying389⟩
theorem WG(u:az):TR be GG 159 #[.int .u64 u.toNat,.int .i64 10] [] (dX (bn (bB u.toNat))):=by
 have hu:=u.toNat_lt;generalize u.toNat=u at*;refine bZ U λb O hb hG=>?_;refine yB (u<100) (100<=u) ?_ ?_<;>intro h
 ·refine xS ?_;rw[show eu.wrap (u:ae)=u from by grind [wrap_i64]];refine xJ (R7 u h) ?_;exact xR
 ·have h20:=bN6 u hu;refine xA ?_;intro b5;refine xJ (WE u bw hu) ?_;refine X8 (l:=0) (h:=gJ u) U U U Bd.no (Bd.at U U) bw bw bw ?_;refine EW b5 1 24 U U ?_;refine Al (a:=aN ⟨b5,0,aO⟩) (gJ u) bw (xS ?_);refine cP (aL0 GG 389 b5 24 u hu _ ?_) ?_
  ·rw[Nat.mul_one];exact(List.take_replicate (n:=24) (i:=gJ u) (a:=gf .u8 0)).trans bQ
  rintro _ _ ⟨rfl,rfl⟩;refine xD ?_;refine X8 (l:=0) (h:=gJ u) U U U Bd.no (Bd.at U U) bw bw bw (xS ?_);refine Ab U U U U  ?_;exact xR
theorem Bv(u:az):TR be GG 109 #[.int .u64 u.toNat,.int .i64 10] [] (dX (bn (bB u.toNat))):=by
 refine bZ U λb O hb hG=>?_;refine xJ (WG u) ?_;exact xR
end Go.Proofs
namespace Go.Proofs
open Go.Sl
set_option maxRecDepth 8000
section
variable{cc:ah (ar aW×Y aW)}{R:aZ->Y bG->Prop}{H:Y bG}{E:Env}{P:aT}{b:bc}{O:de}{k:Kt}{y:Bs}(w:Bs)(i:ab)(c:au)(r:Bs)(G:dA)(bl:ab)(s:Bs)(x:au)
theorem OJ:∀(j:ab) (l:Y aR) (v:aR),j<l.length->H' j l [v]=aN (l.set j v)
 |0,x::r,v,_=>by cases r<;>rfl
 |j+1,x::r,v,h=>by
  show(match H' j r [v]with|some m=>aN (x::m)|none=>aO)=_;rw[OJ j r v Au];rfl
 |_,[],_,h=>by simp at h
instance:XD be 382 256 4:=⟨Tryz.underlying382⟩
instance:TZ be 382 (cQ 256 (.bool aQ)):=⟨by kernel_rfl⟩
theorem ak1:∀(l m:Y aR),l.length=m.length->ov l m=aN m
 |[],[],_=>rfl
 |x::l,y::m,h=>by
  show(match ov l m with|some q=>aN (y::q)|none=>aO)=_;rw[ak1 l m Au]
def DQ(c:au):ai:=decide (48<=c.toNat)&&decide (c.toNat<=57)
def d10:Bs:=[48,49,50,51,52,53,54,55,56,57]
theorem bu2:∀(i:ab) (h:i<d10.length),d10[i].toNat=48+i:=by
 have:∀i:Fin 10,(d10[i.val]'i.isLt).toNat=48+i.val:=eK;exact λi h=>this ⟨i,h⟩
def uk(i:ab):Y aR:=(List.range 256).map λc=>.bool (decide (48<=c)&&decide (c<48+i))
theorem OK:(uk i).length=256:=by simp[uk]
theorem ak2(h:i<10):(uk i).set (48+i) (.bool aP)=uk (i+1):=by
 apply List.ext_getElem
 ·simp[uk]
 ·intro j h1 h2
  rw[List.getElem_set]
  simp only[uk,gG,List.getElem_range]
  split
  ·subst_vars;simp
  ·congr 2
   grind
theorem WH:TR be G 243 #[bn d10] [] (dX (.tuple #[.agg (uk 10).toArray,.bool aP])):=by
 refine dH U λb O hb hG=>xS ?_;refine kq U U λb2=>?_;refine X.dE (Hs':=[bx b2 382 (uk 0)]) (kg (by rw[show uk 0=cQ 256 (.bool aQ)from by kernel_rfl])) (xS ?_);refine fR [0,2] [0] (ι:={i:ab // i<=10}) (λi q_=>(4,bR i.1)::q_) (λi q_=>bx b2 382 (uk i.1)::q_) (λi=>10 - i.1) ⟨0,bp _⟩ ?_;rintro⟨i,hi⟩ ih;dsimp only;refine xS ?_;rw[show d10.length=10 from rfl];refine yB (i<10) (i=10) ?_ ?_<;>intro hi
 ·have hd:=bu2 i hi;refine xS ?_;refine jG (l:=d10) (j:=i) U U U U U hi ?_;generalize d10[i]'hi=x at*;refine xB ?_ ?_<;>intro h2
  ·simp at h2;omega
  ·refine xS ?_
   refine Aa (j:=x.toNat) U U U U dW bw (xS ?_)
   refine X.st (LY:=uk (i+1)) U U U U U U ?_ ?_
   ·grind [ak2,OJ,OK]
   refine xS ?_
   refine X.W (ih ⟨i+1,by omega⟩ bQ)
 ·subst hi;refine xS ?_;refine cT hb (.jf U cE (.tmp U .nil)) ⟨?_,U⟩;kernel_rfl
theorem aL1:(uk 10)[x.toNat]?=aN (.bool (DQ x)):=by
 have h:=x.toNat_lt
 grind [uk,DQ]
theorem JY:TR be G 347 #[bu bl,gT x] [bx bl 382 (uk 10)] (dC λv B=>v=.bool (DQ x)/\B=[bx bl 382 (uk 10)]):=by
 refine bZ U λb O hb hG=>?_;have h:=x.toNat_lt;refine xS ?_;refine Aa (j:=x.toNat) U U U U U bw ?_;refine bl5 U U U (v:=.bool (DQ x)) (by grind [aL1]) (xS ?_);exact ZZ
def DR(s:Bs):Bs:=s.dropWhile DQ
def qF(s:Bs):Bs:=(s.reverse.dropWhile DQ).reverse
theorem R8:qF (s++[x])=if DQ x then qF s else s++[x]:=by
 grind [qF,List.dropWhile_cons]
theorem WI(hs:s.length<=1000000000):TR be G 245 #[bn s,bu bl] [bx bl 382 (uk 10)] (dC λv B=>v=bn (qF s)/\B=[bx bl 382 (uk 10)]):=by
 refine bZ U λb O hb hG=>xS ?_;refine fR [1] [] (ι:={q:Bs // qF q=qF s/\q.length<=1000000000}) (λq q_=>(0,bn q.1)::q_) (λq q_=>q_) (λq=>q.1.length) ⟨s,U,hs⟩ ?_;rintro⟨q,hq,Tc⟩ ih;dsimp only at Tc ⊢;rcases List.eq_nil_or_concat q with rfl|⟨r,x,hqe⟩
 ·exact bg5
 ·rw[List.concat_eq_append]at hqe;have hl:q.length=r.length+1:=bQ;have h9:q[r.length]' bw=x:=R9;have h8:q.take r.length=r:=R9;refine xB ?_ ?_<;>intro h0
  ·refine xS ?_;refine jG (l:=q) (j:=r.length) U U U U bw bw ?_;rw[h9];refine cP (JY G bl x) ?_;rintro _ _ ⟨rfl,rfl⟩;dsimp only[bh,bk,bj];rw[hqe,R8,<-hqe]at hq;cases hx:DQ x with
   |true=>
    rw[ao hx]at hq;refine xS ?_;refine lO (l:=0) (h:=r.length) U U U Bd.no (Bd.at U bw) bw bw ?_;rw[show(q.drop 0).take (r.length - 0)=r from by grind];refine xS ?_;exact X.W (ih ⟨r,hq,by omega⟩ bQ)
   |false=>
    exact bg6
  ·have:=of_decide_eq_false h0;omega
theorem WJ(hs:s.length<=1000000000):TR be G 244 #[bn s,bu bl] [bx bl 382 (uk 10)] (dC λv B=>v=bn (DR s)/\B=[bx bl 382 (uk 10)]):=by
 refine bZ U λb O hb hG=>xS ?_;refine fR [1] [] (ι:={q:Bs // DR q=DR s}) (λq q_=>(0,bn q.1)::q_) (λq q_=>q_) (λq=>q.1.length) ⟨s,U⟩ ?_;rintro⟨q,hq⟩ ih;dsimp only;rcases List.eq_nil_or_concat q.reverse with h|⟨r,x,hqe⟩
 ·have:q=[]:=Ca;subst this;exact bg5
 ·have hqe:q=x::r.reverse:=bQ;have hl:q.length=r.length+1:=bQ;have h9:q[0]' bw=x:=R9;have h8:q.drop 1=r.reverse:=R9;refine xB ?_ ?_<;>intro h0
  ·refine xS ?_;refine jG (l:=q) (j:=0) U U U U U bw ?_;rw[h9];refine cP (JY G bl x) ?_;rintro _ _ ⟨rfl,rfl⟩;dsimp only[bh,bk,bj];rw[hqe,DR,List.dropWhile_cons,<-hqe]at hq;cases hx:DQ x with
   |true=>
    rw[ao hx]at hq;refine xS ?_;refine lO (l:=1) (h:=q.length) U U U (Bd.at U U) Bd.no bw bw ?_;rw[show(q.drop 1).take (q.length - 1)=r.reverse from by grind];refine xS ?_;exact X.W (ih ⟨r.reverse,hq⟩ bQ)
   |false=>
    exact bg6
  ·have:=of_decide_eq_false h0;omega
theorem ak4(hs:s.length<=1000000000):TR be G 154 #[bn s,bn d10] [] (dX (bn (DR (qF s)))):=by
 refine bZ U λb O hb hG=>?_;by_cases h0:s=[]
 ·subst h0;exact xR
 ·refine xT 9 ?_ ?_<;>intro h
  ·simp at h;exact aD h h0
  refine xJ (WH G) ?_
  generalize hT:uk 10=T
  have hTl:T.length=256:=by grind [OK]
  refine xA ?_
  intro b5
  refine X.st (l:=T) (LY:=T) U U U U hTl (by rw[<-hT];kernel_rfl) ?_ ?_
  ·exact ak1 _ _ bQ
  subst hT
  refine xS ?_
  refine cP (WI G b5 s hs) ?_
  rintro _ _ ⟨rfl,rfl⟩
  refine xD ?_
  refine cP (WJ G b5 (qF s) ?_) ?_
  ·grind [qF,List.dropWhile_sublist]
  rintro _ _ ⟨rfl,rfl⟩
  refine xD ?_
  exact xR
theorem OL:DR (qF s)=[]↔∀x∈s,DQ x=aP:=by
 have e1:∀l:Bs,l.dropWhile DQ=[]↔∀x∈l,DQ x=aP:=by
  intro l;induction l with
  |nil=>simp
  |cons x r ih=>grind [List.dropWhile_cons]
 constructor
 ·intro h;by_cases h2:qF s=[]
  ·have:s.reverse.dropWhile DQ=[]:=by simpa[qF]using h2
   grind
  ·exfalso
   rw[DR,e1]at h
   obtain⟨r,x,hq⟩:=(List.eq_nil_or_concat (qF s)).resolve_left h2
   have hx:=h x (by rw[hq];simp)
   have h3:(s.reverse.dropWhile DQ)=x::r.reverse:=by
    grind [qF]
   have e2:∀(l:Bs) (q:Bs),l.dropWhile DQ=x::q->DQ x=aQ:=by
    intro l;induction l<;>grind [List.dropWhile_cons]
   grind
 ·intro h;have h2:qF s=[]:=by
   grind [qF]
  rw[h2];rfl
def WK:aA->aR:=λ_=>.iface 111 (.agg #[])
instance:QN be 111:=⟨by kernel_rfl⟩
theorem kH(p:ai):TR be G 54 #[.bool p] [] (MR WK (if p then .ok ()else .error ():aB aA aA) (λ_ v B=>v=.tuple #[]/\B=[])):=by
 refine dH U λb O hb hG=>?_;cases p with
 |true=>
  refine xS ?_;exact X.fin hb (.tmps U) ⟨_,⟨(),U,U,U⟩,bS.refl _⟩
 |false=>
  refine xS ?_;refine rN U U U (xS ?_);exact X4 hb U U (λ_=>rfl) ⟨(),U,U,U⟩
def zM(w:Bs):ai:=decide (1<=w.length)&&decide (w.length<=9)&&w.all DQ&&(decide (w.headD 0≠48)||decide (w=[48]))
def Hi(w:Bs):ab:=((Lib.atoi w).getD 0).toNat
theorem T':∀(l:Bs) (acc:ab),(∀x∈l,DQ x=aP)->∃n,Lib.decFrom acc l=aN n
 |[],acc,_=>⟨acc,U⟩
 |x::r,acc,h=>by
  have hx:=h x dW;have:Lib.digitVal x=aN (x.toNat - 48):=by
   grind [Lib.digitVal,DQ]
  rw[Lib.decFrom,this];exact T' r _ (λy hy=>h y D9)
theorem Ly(h:zM w=aP):Lib.atoi w=aN (Hi w:ae):=by
 simp only[zM,Bool.and_eq_true,decide_eq_true_eq,gi]at h;obtain⟨⟨⟨h1,_⟩,h2⟩,_⟩:=h;unfold Hi;cases w with
 |nil=>simp at h1
 |cons x r=>
  have hx:=h2 x dW;obtain⟨n,hn⟩:=T' (x::r) 0 h2;have e:Lib.atoi (x::r)=aN (n:ae):=by
   have h45:(x==45)=aQ:=Ua
   have h43:(x==43)=aQ:=Ua
   grind [Lib.atoi,Lib.decNat]
  rw[e];simp
theorem Ub(hs:w.length<=1000000000):TR be GG 93 #[bn w] [] (MR WK (if zM w then .ok (Hi w)else .error ():aB aA ab) (λn v B=>v=bR n/\B=[])):=by
 refine dH U λb O hb hG=>xS ?_;by_cases h0:w=[]
 ·subst h0;have tD:zM []=aQ:=cE;exact bN7
 ·have h0':1<=w.length:=bQ;refine bD 8 aP U fD (xS ?_);by_cases h1:w.length<=9
  ·refine bD 13 aP U fD (xS ?_);refine lO (l:=0) (h:=10) U U U Bd.no (Bd.at U U) eK eK  ?_;refine xJ (ak4 GG w hs) ?_;by_cases h2:∀x∈w,DQ x=aP
   ·have h2':=(OL w).2 h2;refine bD 19 aP U (by rw[h2'];rfl) (xS ?_);refine jG (l:=w) (j:=0) U U U U U bw ?_;have hhd:w.headD 0=w[0]' bw:=bN8;have uB:w.all DQ=aP:=bQ;generalize w[0]' bw=x at*;refine xS ?_;by_cases h3:x=48
    ·subst h3;refine bD 23 aQ U cE (xS ?_);by_cases h4:w=[48]
     ·subst h4;have eI:zM [48]=aP:=eK;refine xS ?_;refine fC hG hb (kH GG aP) U U U (bS.refl _) (λe he=>by cases he) ?_;rintro _ _ _ _ ⟨rfl,rfl⟩;refine xD ?_;refine xJ (TH [48] (Hi [48]) bw (Ly [48] eI)) ?_;exact cT hb (.tmps U) ⟨Hi [48],by rw[eI];rfl,U,U⟩
     ·refine bD 27 aQ U bQ ?_;exact bg7
    ·have Qc:((x.toNat:ae)!=48)=aP:=by
      rw[bne_iff_ne];intro h;have e1:(48:au).toNat=48:=U;exact h3 (UInt8.toNat_inj.1 bw)
     refine bD 23 aP U Qc ?_;have eI:zM w=aP:=by grind [zM]
     refine xS ?_;refine fC hG hb (kH GG aP) U U U (bS.refl _) (λe he=>by cases he) ?_;rintro _ _ _ _ ⟨rfl,rfl⟩;refine xD ?_;refine xJ (TH w (Hi w) bw (Ly w eI)) ?_;exact cT hb (.tmps U) ⟨Hi w,by rw[eI];rfl,U,U⟩
   ·have h2':¬DR (qF w)=[]:=by grind [OL]
    refine bD 19 aQ U bQ ?_;have tD:zM w=aQ:=by
     grind [zM]
    exact bN7
  ·refine bD 13 aQ U fD ?_;exact bg7
def h16:Bs:=[48,49,50,51,52,53,54,55,56,57,97,98,99,100,101,102]
def vK(c:au):ae:=dT h16 c
theorem ak5(c:au):∀(l:Bs),-1<=dT l c/\dT l c<l.length
 |[]=>by grind [dT]
 |x::r=>by
  have ih:=ak5 c r
  grind [dT]
theorem EN: -1<=vK c/\vK c<16:=ak5 c h16
def Bw:Bs->aB aA ab
 |[a,b]=>if 0<=vK a/\0<=vK b then .ok (16*(vK a).toNat+(vK b).toNat)else .error ()
 |_=>.error ()
theorem aL3(h:w.length≠2):Bw w=.error ():=by
 match w,h with
 |[],_=>rfl
 |[_],_=>rfl
 |[_,_],h=>simp at h
 |_::_::_::_,_=>rfl
theorem Lz:TR be GG 94 #[bn w] [] (MR WK (Bw w) (λn v B=>v=bR n/\B=[])):=by
 refine dH U λb O hb hG=>?_;by_cases h:w.length=2
 ·obtain⟨x,y,rfl⟩:∃x y,w=[x,y]:=by
   match w,h with
   |[x,y],_=>grind
  have hx:=EN x;have hy:=EN y;refine xS ?_;refine fC hG hb (kH GG aP) U U U (bS.refl _) (λe he=>by cases he) ?_;rintro _ _ _ _ ⟨rfl,rfl⟩;refine xD ?_;refine ph [0,1,3,4] [] ?_;apply dB [0,1,3,4] U U U
  ·intro p hp;refine xS ?_;refine jG (l:=[x,y]) (j:=0) U U U U U dW (xS ?_);refine jG (l:=[x,y]) (j:=1) U U U U U dW ?_;exact hp
  ·rfl
  ·rfl
  refine xJ (yS GG h16 x) ?_;refine xJ (yS GG h16 y) ?_;change X _ _ _ _ _ ⟨_,(17,.bool (decide (vK x≥0)))::(16,.bool (decide (vK x≥0)))::(15,.int .i64 (vK x))::(4,.int .i64 (vK y))::(3,.int .i64 (vK x))::_,_⟩ _ _;by_cases h1:0<=vK x
  ·by_cases h2:0<=vK y
   ·have e:Bw [x,y]=.ok (16*(vK x).toNat+(vK y).toNat):=ao ⟨h1,h2⟩
    refine bD 17 aP U (aK h1) (xS ?_)
    rw[show decide (vK y≥0)=aP from aK h2]
    refine xS ?_
    refine fC hG hb (kH GG aP) U U U (bS.refl _) (λe he=>by cases he) ?_
    rintro _ _ _ _ ⟨rfl,rfl⟩
    refine xD ?_
    refine cT hb (.tmps U) ⟨_,e,?_,U⟩
    grind [mv,bR]
   ·have e:Bw [x,y]=.error ():=aj (λh=>h2 h.2);refine bD 17 aP U (aK h1) (xS ?_);rw[show decide (vK y≥0)=aQ from aM h2];refine xS ?_;exact bg8
  ·have e:Bw [x,y]=.error ():=aj (λh=>h1 h.1);refine bD 17 aQ U (aM h1) (xS ?_);exact bg8
 ·rw[aL3 w h];refine xS ?_;have e:((w.length:ae)==2)=aQ:=bQ;rw[e];exact fC hG hb (kH GG aQ) U U U (bS.refl _) (λ_ he=>⟨(),U,U,U⟩) (λx hx=>by cases hx)
theorem aL4{w:Bs}{n:ab}(h:Bw w=.ok n):n<256:=by
 unfold Bw at h;split at h
 ·split at h
  ·rename_i a b h1
   have:=EN a
   have:=EN b
   grind
  ·cases h
 ·cases h
def wW:ab->Bs->aB aA Bs
 |0,_=>.error ()
 |_+1,[]=>.ok []
 |f+1,c::r=>if c≠37 then(match wW f r with|.ok q=>.ok (c::q)|.error e=>.error e)
  else if 3<=(c::r).length then(match Bw (r.take 2)with
   |.ok n=>(match wW f (r.drop 2)with|.ok q=>.ok (cV n::q)|.error e=>.error e)
   |.error e=>.error e)
  else .error ()
def vx(w:Bs):aB aA Bs:=if w=[45]then .ok []else wW (w.length+1) w
theorem zN:∀(f g:ab) (w:Bs),w.length<f->w.length<g->wW f w=wW g w
 |f+1,g+1,[],_,_=>rfl
 |f+1,g+1,c::r,h1,h2=>by
  simp only[bL]at h1 h2;rw[wW,wW,zN f g r bw bw,zN f g (r.drop 2) fD fD]
 |0,_,_,h,_=>by omega
 |_,0,_,_,h=>by omega
def ml(w:Bs):aB aA Bs:=wW (w.length+1) w
theorem WM:ml []=.ok []:=rfl
theorem OM(h:c≠37):ml (c::r)=(match ml r with|.ok q=>.ok (c::q)|.error e=>.error e):=by
 grind [ml,wW]
theorem ON(h:2<=r.length):ml (37::r)=(match Bw (r.take 2)with
 |.ok n=>(match ml (r.drop 2)with|.ok q=>.ok (cV n::q)|.error e=>.error e)
 |.error e=>.error e):=by
 grind [ml,wW,zN]
theorem ak6(h:¬2<=r.length):ml (37::r)=.error ():=by
 grind [ml,wW]
def Bx{α O:Type}(f:α->O):aB aA α->aB aA O
 |.ok x=>.ok (f x)
 |.error e=>.error e
theorem wX(hs:w.length<=1000000000):TR be GG 95 #[bn w] [] (MR WK (vx w) (λq v B=>v=bn q/\B=[])):=by
 refine dH U λb O hb hG=>?_;by_cases h45:w=[45]
 ·subst h45;refine xS ?_;exact cT hb (.tmps U) ⟨[],U,U,U⟩
 rw[show vx w=ml w from aj h45];refine xS ?_;rw[show(w==[45])=aQ from by grind];refine xS ?_;refine kq U U λb3=>?_;refine Yq b3 U (xS ?_);refine fR [3] [0] (ι:={p:Bs×Bs // ml w=Bx (p.2++·) (ml p.1)/\p.1.length+p.2.length<=w.length}) (λp q_=>(0,bn p.1.1)::q_) (λp q_=>QP b3 p.1.2::q_) (λp=>p.1.1.length) ⟨(w,[]),by dsimp only;cases ml w<;>rfl,by simp⟩ ?_;rintro⟨⟨q,l⟩,hq,hl⟩ ih;dsimp only at hq hl ⊢;by_cases h0:q=[]
 ·subst h0;rw[WM,Bx,bj]at hq;refine xS ?_;refine cP (wz GG b3 l) ?_;rintro _ _ ⟨rfl,rfl⟩;refine xD ?_;exact cT hb (.tmps U) ⟨l,hq,U,U⟩
 ·have B6:1<=q.length:=bQ;refine xS ?_;rw[show(!q==[])=aP from by grind];refine xS ?_;refine jG (l:=q) (j:=0) U U U U U B6 ?_;obtain⟨c,r,hqe⟩:∃c r,q=c::r:=by cases q with|nil=>grind|cons c r=>grind
  have It:q[0]'B6=c:=R9;have KX:q.length=r.length+1:=R9;have EI:q.drop 1=r:=R9;rw[It];by_cases hc:c=37
  ·subst hc;rw[hqe]at hq;refine xS ?_;by_cases h3:2<=r.length
   ·rw[ON r h3]at hq
    rw[show decide ((q.length:ae)≥3)=aP from aK bw]
    refine fC hG hb (kH GG aP) U U U (bS.refl _) (λe he=>by cases he) ?_
    rintro _ _ _ _ ⟨rfl,rfl⟩
    refine xD ?_
    refine lO (l:=1) (h:=3) U U U (Bd.at U U) (Bd.at U U) bw bw ?_
    rw[show(q.drop 1).take (3 - 1)=r.take 2 from by rw[EI]]
    refine xS ?_
    refine fC hG hb (Lz (r.take 2)) U U U (bS.refl _) (λe he=>⟨(),by rw[hq,he];rfl,U,U⟩) ?_
    rintro n hn _ _ ⟨rfl,rfl⟩
    have vm:=aL4 hn
    rw[hn]at hq
    refine xD ?_
    rw[show gf .u8 (dS.wrap (n:ae))=gT (cV n)from by rw[rS];rfl]
    refine cP (kb GG b3 l (cV n) bw) ?_
    rintro _ _ ⟨rfl,rfl⟩
    refine xD ?_
    refine lO (l:=3) (h:=q.length) U U U (Bd.at U U) Bd.no bw (bz _) ?_
    rw[show(q.drop 3).take (q.length - 3)=r.drop 2 from by grind [bI]]
    refine xS ?_
    refine X.W (ih ⟨(r.drop 2,l++[cV n]),?_,by simp;omega⟩ (by dsimp only;simp;omega))
    grind [Bx]
   ·rw[ak6 r h3]at hq;rw[show decide ((q.length:ae)≥3)=aQ from aM bw];exact fC hG hb (kH GG aQ) U U U (bS.refl _) (λ_ he=>⟨(),hq,U,U⟩) (λx hx=>by cases hx)
  ·have hc':((c.toNat:ae)!=37)=aP:=by
    rw[bne_iff_ne];intro h;have e1:(37:au).toNat=37:=U;exact hc (UInt8.toNat_inj.1 bw)
   rw[hqe,OM c r hc]at hq
   refine xS ?_
   rw[hc']
   refine xS ?_
   refine jG (l:=q) (j:=0) U U U U U B6 ?_
   rw[It]
   refine cP (kb GG b3 l c bw) ?_
   rintro _ _ ⟨rfl,rfl⟩
   refine xD ?_
   refine lO (l:=1) (h:=q.length) U U U (Bd.at U U) Bd.no B6 (bz _) ?_
   rw[show(q.drop 1).take (q.length - 1)=r from by grind]
   refine xS ?_
   refine X.W (ih ⟨(r,l++[c]),?_,by simp;omega⟩ oQ)
   grind [Bx]
section
set_option maxRecDepth 20000
structure Sh where
 name:Bs
 iU:Y Bs
 f1:ah ab
 f2:ah ab
def fv:ah ab->aR
 |none=>.nilFunc
 |some f=>.func (.func f) #[] #[]
def shT:Y Sh:=[⟨[100,105,115,107],[[110]],aN 97,aO⟩,⟨[111,112,101,110],[[100,101,101,112,124,102,97,115,116],[110],[110]],aN 98,aO⟩,⟨[112,117,116],[[116],[116]],aO,aN 99⟩,⟨[100,101,108],[[84]],aO,aN 101⟩,⟨[103,101,116],[[116]],aO,aN 102⟩,⟨[115,121,110,99],[],aO,aN 103⟩,⟨[109,101,114,103,101],[],aO,aN 104⟩,⟨[99,108,111,115,101],[],aO,aN 105⟩,⟨[107,101,121,115],[],aO,aN 106⟩,⟨[97,108,108],[],aO,aN 107⟩,⟨[108,97,115,116],[],aO,aN 108⟩,⟨[102,97,105,108],[[110]],aN 110,aO⟩,⟨[98,114,101,97,107],[[110],[98,101,102,111,114,101,124,98,101,104,105,110,100]],aN 112,aO⟩,⟨[99,114,97,115,104],[[110]],aN 113,aO⟩,⟨[108,97,121],[[116],[116]],aN 114,aO⟩,⟨[102,108,105,112],[[116],[110],[120]],aN 114,aO⟩,⟨[99,117,116],[[116],[110]],aN 114,aO⟩,⟨[108,111,115,101],[[116]],aN 114,aO⟩,⟨[99,111,112,121],[[116],[116]],aN 114,aO⟩,⟨[109,111,118,101],[[116],[116]],aN 114,aO⟩,⟨[102,105,108,101,115],[],aN 115,aO⟩,⟨[114,101,97,100],[[116]],aN 116,aO⟩,⟨[117,115,101,100],[],aN 117,aO⟩]
def Sh.val(s:Sh)(a:ah aX):aR:=.agg #[.slice a s.iU.length s.iU.length,fv s.f1,fv s.f2]
def shM(qs:Y (ah aX)):Y (Bs×aR):=List.zipWith (λs a=>(s.name,s.val a)) shT qs
def shB(qs:Y (ah aX)):Y bG:=List.zipWith (λs a=>dp RS 1 a s.iU) shT qs
theorem bC2{K:Type}{cC:K->aR}{M M':Y (K×aR)}{F:Y bG}[hf:FM H bl cC M F](h:M=M')(hx:X P b O cc k E (mp cC bl M'::F) R):X P b O cc k E H R:=by
 subst h;exact X.dE hf.out hx
set_option synthInstance.maxSize 200000 in
set_option synthInstance.maxHeartbeats 4000000 in
theorem WN:TR be G 60 #[] [] (dC λv B=>∃m qs,qs.length=shT.length/\v=.map (aN m)/\B=mp bn m (shM qs)::shB qs):=by
 refine SV λb O hb hG=>xS ?_;refine sP bn U U λm=>xS ?_;refine me U U cE cE cE cE cE cE λb0=>?_;refine jx b0 (λk:Bs=>[bn k]) [[110]] U (λ_=>rfl) (xS ?_);refine mQ ([100,105,115,107]:Bs) dy U U U U (xS ?_);refine me U U cE cE cE cE cE cE λb1=>?_;refine jx b1 (λk:Bs=>[bn k]) [[100,101,101,112,124,102,97,115,116],[110],[110]] U (λ_=>rfl) (xS ?_);refine mQ ([111,112,101,110]:Bs) dy U U U U (xS ?_);refine me U U cE cE cE cE cE cE λb2=>?_;refine jx b2 (λk:Bs=>[bn k]) [[116],[116]] U (λ_=>rfl) (xS ?_);refine mQ ([112,117,116]:Bs) dy U U U U (xS ?_);refine me U U cE cE cE cE cE cE λb3=>?_;refine jx b3 (λk:Bs=>[bn k]) [[84]] U (λ_=>rfl) (xS ?_);refine mQ ([100,101,108]:Bs) dy U U U U (xS ?_);refine me U U cE cE cE cE cE cE λb4=>?_;refine jx b4 (λk:Bs=>[bn k]) [[116]] U (λ_=>rfl) (xS ?_);refine mQ ([103,101,116]:Bs) dy U U U U (xS ?_);refine mQ ([115,121,110,99]:Bs) dy U U U U (xS ?_);refine mQ ([109,101,114,103,101]:Bs) dy U U U U (xS ?_);refine mQ ([99,108,111,115,101]:Bs) dy U U U U (xS ?_);refine mQ ([107,101,121,115]:Bs) dy U U U U (xS ?_);refine mQ ([97,108,108]:Bs) dy U U U U (xS ?_);refine mQ ([108,97,115,116]:Bs) dy U U U U (xS ?_);refine me U U cE cE cE cE cE cE λyP=>?_;refine jx yP (λk:Bs=>[bn k]) [[110]] U (λ_=>rfl) (xS ?_);refine mQ ([102,97,105,108]:Bs) dy U U U U (xS ?_);refine me U U cE cE cE cE cE cE λDn=>?_;refine jx Dn (λk:Bs=>[bn k]) [[110],[98,101,102,111,114,101,124,98,101,104,105,110,100]] U (λ_=>rfl) (xS ?_);refine mQ ([98,114,101,97,107]:Bs) dy U U U U (xS ?_);refine me U U cE cE cE cE cE cE λIc=>?_;refine jx Ic (λk:Bs=>[bn k]) [[110]] U (λ_=>rfl) (xS ?_);refine mQ ([99,114,97,115,104]:Bs) dy U U U U (xS ?_);refine me U U cE cE cE cE cE cE λN8=>?_;refine jx N8 (λk:Bs=>[bn k]) [[116],[116]] U (λ_=>rfl) (xS ?_);refine mQ ([108,97,121]:Bs) dy U U U U (xS ?_);refine me U U cE cE cE cE cE cE λb15=>?_;refine jx b15 (λk:Bs=>[bn k]) [[116],[110],[120]] U (λ_=>rfl) (xS ?_);refine mQ ([102,108,105,112]:Bs) dy U U U U (xS ?_);refine me U U cE cE cE cE cE cE λb16=>?_;refine jx b16 (λk:Bs=>[bn k]) [[116],[110]] U (λ_=>rfl) (xS ?_);refine mQ ([99,117,116]:Bs) dy U U U U (xS ?_);refine me U U cE cE cE cE cE cE λb17=>?_;refine jx b17 (λk:Bs=>[bn k]) [[116]] U (λ_=>rfl) (xS ?_);refine mQ ([108,111,115,101]:Bs) dy U U U U (xS ?_);refine me U U cE cE cE cE cE cE λb18=>?_
 refine jx b18 (λk:Bs=>[bn k]) [[116],[116]] U (λ_=>rfl) (xS ?_);refine mQ ([99,111,112,121]:Bs) dy U U U U (xS ?_);refine me U U cE cE cE cE cE cE λL1=>?_;refine jx L1 (λk:Bs=>[bn k]) [[116],[116]] U (λ_=>rfl) (xS ?_);refine mQ ([109,111,118,101]:Bs) dy U U U U (xS ?_);refine mQ ([102,105,108,101,115]:Bs) dy U U U U (xS ?_);refine me U U cE cE cE cE cE cE λb21=>?_;refine jx b21 (λk:Bs=>[bn k]) [[116]] U (λ_=>rfl) (xS ?_);refine mQ ([114,101,97,100]:Bs) dy U U U U (xS ?_);refine mQ ([117,115,101,100]:Bs) dy U U U U (xS ?_);refine bC2 m (M':=shM [aN ⟨b0,0,aO⟩,aN ⟨b1,0,aO⟩,aN ⟨b2,0,aO⟩,aN ⟨b3,0,aO⟩,aN ⟨b4,0,aO⟩,aO,aO,aO,aO,aO,aO,aN ⟨yP,0,aO⟩,aN ⟨Dn,0,aO⟩,aN ⟨Ic,0,aO⟩,aN ⟨N8,0,aO⟩,aN ⟨b15,0,aO⟩,aN ⟨b16,0,aO⟩,aN ⟨b17,0,aO⟩,aN ⟨b18,0,aO⟩,aN ⟨L1,0,aO⟩,aO,aN ⟨b21,0,aO⟩,aO]) iB ?_;refine ku Bs RS 1 ?_;refine ku Bs RS 1 ?_;refine ku Bs RS 1 ?_;refine ku Bs RS 1 ?_;refine ku Bs RS 1 ?_;refine ku Bs RS 1 ?_;refine ku Bs RS 1 ?_;refine ku Bs RS 1 ?_;refine X.ret hb (.tmps U) ⟨_,⟨m,[aN ⟨b0,0,aO⟩,aN ⟨b1,0,aO⟩,aN ⟨b2,0,aO⟩,aN ⟨b3,0,aO⟩,aN ⟨b4,0,aO⟩,aO,aO,aO,aO,aO,aO,aN ⟨yP,0,aO⟩,aN ⟨Dn,0,aO⟩,aN ⟨Ic,0,aO⟩,aN ⟨N8,0,aO⟩,aN ⟨b15,0,aO⟩,aN ⟨b16,0,aO⟩,aN ⟨b17,0,aO⟩,aN ⟨b18,0,aO⟩,aN ⟨L1,0,aO⟩,aO,aN ⟨b21,0,aO⟩,aO],U,U,U⟩,?_⟩;show bS _ [mp bn m (shM [aN ⟨b0,0,aO⟩,aN ⟨b1,0,aO⟩,aN ⟨b2,0,aO⟩,aN ⟨b3,0,aO⟩,aN ⟨b4,0,aO⟩,aO,aO,aO,aO,aO,aO,aN ⟨yP,0,aO⟩,aN ⟨Dn,0,aO⟩,aN ⟨Ic,0,aO⟩,aN ⟨N8,0,aO⟩,aN ⟨b15,0,aO⟩,aN ⟨b16,0,aO⟩,aN ⟨b17,0,aO⟩,aN ⟨b18,0,aO⟩,aN ⟨L1,0,aO⟩,aO,aN ⟨b21,0,aO⟩,aO]),dp RS 1 (aN ⟨b0,0,aO⟩) [[110]],dp RS 1 (aN ⟨b1,0,aO⟩) [[100,101,101,112,124,102,97,115,116],[110],[110]],dp RS 1 (aN ⟨b2,0,aO⟩) [[116],[116]],dp RS 1 (aN ⟨b3,0,aO⟩) [[84]],dp RS 1 (aN ⟨b4,0,aO⟩) [[116]],dp RS 1 aO [],dp RS 1 aO [],dp RS 1 aO [],dp RS 1 aO [],dp RS 1 aO [],dp RS 1 aO [],dp RS 1 (aN ⟨yP,0,aO⟩) [[110]],dp RS 1 (aN ⟨Dn,0,aO⟩) [[110],[98,101,102,111,114,101,124,98,101,104,105,110,100]],dp RS 1 (aN ⟨Ic,0,aO⟩) [[110]],dp RS 1 (aN ⟨N8,0,aO⟩) [[116],[116]],dp RS 1 (aN ⟨b15,0,aO⟩) [[116],[110],[120]],dp RS 1 (aN ⟨b16,0,aO⟩) [[116],[110]],dp RS 1 (aN ⟨b17,0,aO⟩) [[116]],dp RS 1 (aN ⟨b18,0,aO⟩) [[116],[116]],dp RS 1 (aN ⟨L1,0,aO⟩) [[116],[116]],dp RS 1 aO [],dp RS 1 (aN ⟨b21,0,aO⟩) [[116]],dp RS 1 aO []];exact bA
end
theorem Uc(y:Bs):∀(T:Y Sh) (qs:Y (ah aX)),qs.length=T.length->
 (T.find? (λs=>s.name=y)=aO/\gM (List.zipWith (λs a=>(s.name,s.val a)) T qs) y=aO)\/
 ∃s q,T.find? (λs=>s.name=y)=aN s/\gM (List.zipWith (λs a=>(s.name,s.val a)) T qs) y=aN (s.val q)/\bS (List.zipWith (λs a=>dp RS 1 a s.iU) T qs) [dp RS 1 q s.iU]
 |[],[],_=>.inl ⟨U,U⟩
 |s::T,q::qs,h=>by
  by_cases h1:s.name=y
  ·refine .inr ⟨s,q,by simp[h1],?_,?_⟩
   ·simp[gM,h1]
   ·exact ia [_] _
  ·have e1:(s::T).find? (λs=>s.name=y)=T.find? (λs=>s.name=y):=by simp[h1]
   have e2:gM (List.zipWith (fun(s:Sh) a=>(s.name,s.val a)) (s::T) (q::qs)) y=gM (List.zipWith (fun(s:Sh) a=>(s.name,s.val a)) T qs) y:=by simp[gM,h1]
   rw[e1,e2]
   rcases Uc y T qs (by simpa using h)with h2|⟨s',q',h2,h3,h4⟩
   ·exact .inl h2
   ·exact .inr ⟨s',q',h2,h3,(bS.drop _ _).trans h4⟩
def By(y:Bs):ah Sh:=shT.find? (λs=>s.name=y)
theorem ak8{s:Sh}(h:By y=aN s):s.iU.length<=3:=by
 have hm:s∈shT:=List.mem_of_find?_eq_some h
 have:∀s∈shT,s.iU.length<=3:=by unfold shT;simp_all
 grind
theorem aL5{s:Sh}(h:By y=aN s):∀d∈s.iU,d.length<=20:=by
 have hm:s∈shT:=List.mem_of_find?_eq_some h
 have:∀s∈shT,∀d∈s.iU,d.length<=20:=by unfold shT;simp_all
 grind
def ShR:ah Sh->Y aR->Y bG->Prop
 |none,cs,X=>cs=[.slice aO 0 0,.nilFunc,.nilFunc]/\X=[]
 |some s,cs,X=>∃q,cs=[.slice q s.iU.length s.iU.length,fv s.f1,fv s.f2]/\X=[dp RS 1 q s.iU]
theorem ShR.cells{S:ah Sh}{cs:Y aR}{X:Y bG}(h:ShR S cs X):∃a n f1 f2,cs=[.slice a n n,fv f1,fv f2]/\nY [.slice a n n,fv f1,fv f2]=aP:=by
 have key:∀(a:ah aX) (n:ab) (f1 f2:ah ab),nY [.slice a n n,fv f1,fv f2]=aP:=by
  intro a n f1 f2;cases f1<;>cases f2<;>rfl
 cases S with
 |none=>exact⟨aO,0,aO,aO,h.1,key _ _ _ _⟩
 |some s=>obtain⟨q,h,_⟩:=h;grind
theorem va(y:Bs):TR be G 60 #[] [] (dC λv B=>∃(m:ab) (M:Y (Bs×aR)) (cs:Y aR) (X:Y bG),v=.map (aN m)/\(gM M y).getD (.agg #[.slice aO 0 0,.nilFunc,.nilFunc])=.agg cs.toArray/\(gM M y).isSome=(By y).isSome/\ShR (By y) cs X/\B=[mp bn m M,dZ X]):=by
 refine(WN G).eY (bS.refl _) ?_;rintro e B he;cases e with
 |returned v=>
  obtain⟨m,qs,hq,rfl,rfl⟩:=he;rcases Uc y shT qs hq with⟨h1,h2⟩|⟨s',q,h2,h3,h4⟩
  ·have h1':By y=aO:=h1;rw[h1'];exact⟨_,⟨m,_,_,[],U,by grind [shM],by grind [shM],⟨U,U⟩,U⟩,bS.cons _ ((bS.nil _).trans (iE [] []))⟩
  ·have h2':By y=aN s':=h2;rw[h2'];exact⟨_,⟨m,_,_,[dp RS 1 q s'.iU],U,by rw[shM,h3];rfl,by grind [shM],⟨q,U,U⟩,U⟩,bS.cons _ (h4.trans (iE [_] []))⟩
 |panicked _=>exact he.elim
 |outgrown=>exact he.elim
structure H5 where
 word:Bs
 texts:Y Bs
 iV:Y ab
def pS:Y Bs->aB aA (Y Bs)
 |[]=>.ok []
 |x::r=>match vx x with
  |.error e=>.error e
  |.ok q=>(match pS r with|.ok l=>.ok (q::l)|.error e=>.error e)
def Hj(nd:Bs)(c:H5):Y Bs->aB aA (H5×Y Bs)
 |[]=>.error ()
 |x::r=>
  if nd=[110]then(if zM x then .ok ({c with iV:=c.iV++[Hi x]},r)else .error ())
  else if nd=[120]then(match Bw x with|.ok n=>.ok ({c with iV:=c.iV++[n]},r)|.error e=>.error e)
  else if nd=[116]then(match vx x with|.ok q=>.ok ({c with texts:=c.texts++[q]},r)|.error e=>.error e)
  else if nd=[84]then(match pS (x::r)with|.ok l=>.ok ({c with texts:=c.texts++l},[])|.error e=>.error e)
  else if(splitB 124 nd).contains x then .ok ({c with texts:=c.texts++[x]},r)else .error ()
def j8:Y Bs->H5->Y Bs->aB aA H5
 |[],c,rest=>if rest=[]then .ok c else .error ()
 |nd::ns,c,rest=>match Hj nd c rest with
  |.ok p=>j8 ns p.1 p.2
  |.error e=>.error e
def um:Y Bs->aB aA H5
 |[]=>.error ()
 |w::r=>match By w with
  |none=>.error ()
  |some s=>j8 s.iU ⟨w,[],[]⟩ r
def bX1(c:H5)(p:(ah aX×ab)×(ah aX×ab)):aR:=.agg #[bn c.word,.slice p.1.1 c.texts.length p.1.2,.slice p.2.1 c.iV.length p.2.2]
abbrev RN:Rp ab:=cy λn:ab=>[bR n]
theorem Yn(e sz:ab)(h:X P b O cc k E (own e sz aO 0 0 []::H) R):X P b O cc k E H R:=
 yK (λ_ _ hs=>j6 e sz hs) h
structure CmI where
 i:ab
 a:ah aX
 cap:ab
 rest:Y Bs
 cmd:H5
 ta:ah aX
 tc:ab
 na:ah aX
 nc:ab
theorem ak9(a:ah aX)(n c:ab)(w:Bs)(l:Y Bs)(hn:(w::l).length=n)(hc:n<=c)(hl:∀x∈w::l,x.length<=1000000)(vm:n<=1000000):
 TR be GG 58 #[.slice a n c] [dp RS 1 a (w::l)] (MR WK (um (w::l)) (λq v B=>∃p,v=bX1 q p/\q.texts.length<=p.1.2/\q.iV.length<=p.2.2/\B=[dp RS 1 p.1.1 q.texts,dp RN 1 p.2.1 q.iV])):=by
 refine dH U λb O hb hG=>?_
 have h0:0<(w::l).length:=dW
 refine ly a 0 h0 λbl o ha=>?_
 subst ha
 rw[show(w::l)[0]'h0=w from rfl]
 refine xA ?_
 intro b2
 refine eA (j:=0) U U U U U bw  ?_
 refine xA ?_
 intro b3
 refine av9 1 U (ι:={p:ab×Y aR×Y bG // ShR (By w) p.2.1 p.2.2}) (λp=>([(0,.slice (aN ⟨bl,o,aO⟩) n c),(2,bu b2),(3,bu b3),(4,bu p.1.1),(5,.bool (By w).isSome)],[bx b3 60 [bn w,.slice aO 0 0,.slice aO 0 0],bx b2 60 [bn [],.slice aO 0 0,.slice aO 0 0],bx p.1.1 121 p.1.2.1,dZ p.1.2.2,dp RS 1 (aN ⟨bl,o,aO⟩) (w::l)])) ?_ ?_
 ·rintro⟨⟨b4,cs,XX⟩,hR⟩;dsimp only at hR ⊢;cases Nq:By w with
  |none=>
   have hE:um (w::l)=.error ():=by rw[um,Nq]
   refine xS ?_;exact fC hG hb (kH GG aQ) U U U (bS.refl _) (λ_ _=>⟨(),hE,U,U⟩) (λx hx=>by cases hx)
  |some s=>
   have hE:um (w::l)=j8 s.iU ⟨w,[],[]⟩ l:=by rw[um,Nq]
   rw[Nq]at hR;have hs3:=ak8 Nq;obtain⟨q,rfl,rfl⟩:=hR;refine mc [dp RS 1 q s.iU] (xD ?_);refine fC hG hb (kH GG aP) U U U (bS.refl _) (λe he=>by cases he) ?_;rintro _ _ _ _ ⟨rfl,rfl⟩;refine xD ?_;refine pj (l:=1) (h:=n) U U U hn (Bd.at U U) Bd.no bw bw hc λa2 c2 Qq=>?_;have hn':n=l.length+1:=by rw[<-hn];simp
   rw[show((w::l).drop 1).take (n - 1)=l from by rw[hn'];simp];refine xS ?_;refine Yn 9 1 ?_;refine Yn 3 1 ?_;refine X.loop (ι:={p:CmI // um (w::l)=j8 (s.iU.drop p.i) p.cmd p.rest/\p.cmd.word=w/\p.i<=s.iU.length/\p.rest.length<=p.cap/\p.rest.length+p.cmd.texts.length<=n/\p.cmd.iV.length<=p.i/\∀x∈p.rest,x.length<=1000000}) (λp=>([(27,bR p.1.i),(26,bR s.iU.length),(25,.slice q s.iU.length s.iU.length),(0,.slice p.1.a p.1.rest.length p.1.cap),(2,bu b2),(3,bu b3)],
    [bx b3 60 [bn w,.slice p.1.ta p.1.cmd.texts.length p.1.tc,.slice p.1.na p.1.cmd.iV.length p.1.nc],own 9 1 p.1.ta p.1.cmd.texts.length p.1.tc (p.1.cmd.texts.flatMap λk:Bs=>[bn k]),own 3 1 p.1.na p.1.cmd.iV.length p.1.nc (p.1.cmd.iV.flatMap λk:ab=>[bR k]),bx b2 60 [bn [],.slice aO 0 0,.slice aO 0 0],dp RS 1 q s.iU,dp RS 1 p.1.a p.1.rest])) (λp=>s.iU.length - p.1.i) ⟨⟨0,a2,c2,l,⟨w,[],[]⟩,aO,0,aO,0⟩,hE,U,bp _,by dsimp only;omega,by simp;omega,bz _,λx hx=>hl x N0⟩ (Sub.cons U (Sub.cons U (Sub.cons U (Sub.cons (dI U (by dsimp only;rw[hn',Nat.add_sub_cancel])) (Sub.of U))))) (show bS _ [bx b3 60 [bn w,.slice aO 0 0,.slice aO 0 0],own 9 1 aO 0 0 [],own 3 1 aO 0 0 [],bx b2 60 [bn [],.slice aO 0 0,.slice aO 0 0],dp RS 1 q s.iU,dp RS 1 a2 l]from bA) ?_
   rintro⟨⟨i,a,cap,rest,cmd,ta,tc,na,nc⟩,l6,vo,hp3,hp4,hp5,hp6,hp7⟩ ih;dsimp only at l6 vo hp3 hp4 hp5 hp6 hp7 ⊢;refine yB (i<s.iU.length) (i=s.iU.length) ?_ ?_<;>intro hi
   ·rw[bP hi,j8]at l6;refine xS ?_;refine ly q i hi λbq oq hbq=>?_;subst hbq;refine eA (j:=i) U U U U U hi ?_;have j7:=aL5 Nq _ (bE hi);generalize s.iU[i]=nd at l6 j7 ⊢;refine xS ?_;by_cases hre:rest=[]
    ·subst hre;exact al1
    have N2:0<rest.length:=gL.2 hre;rw[show decide ((rest.length:ae)>0)=aP from aK bw];refine fC hG hb (kH GG aP) U U U (bS.refl _) (λe he=>by cases he) ?_;rintro _ _ _ _ ⟨rfl,rfl⟩;refine xD ?_;refine nk (ι:={p:CmI // p.rest≠[]/\um (w::l)=j8 (s.iU.drop (i+1)) p.cmd p.rest.tail/\p.cmd.word=w/\p.rest.length<=p.cap/\p.rest.length+p.cmd.texts.length<=n+1/\p.cmd.iV.length<=i+1/\∀x∈p.rest,x.length<=1000000}) (λp=>([(27,bR i),(26,bR s.iU.length),(25,.slice (aN ⟨bq,oq,aO⟩) s.iU.length s.iU.length),(0,.slice p.1.a p.1.rest.length p.1.cap),(2,bu b2),(3,bu b3)],
     [bx b3 60 [bn w,.slice p.1.ta p.1.cmd.texts.length p.1.tc,.slice p.1.na p.1.cmd.iV.length p.1.nc],own 9 1 p.1.ta p.1.cmd.texts.length p.1.tc (p.1.cmd.texts.flatMap λk:Bs=>[bn k]),own 3 1 p.1.na p.1.cmd.iV.length p.1.nc (p.1.cmd.iV.flatMap λk:ab=>[bR k]),bx b2 60 [bn [],.slice aO 0 0,.slice aO 0 0],dp RS 1 (aN ⟨bq,oq,aO⟩) s.iU,dp RS 1 p.1.a p.1.rest])) ?_ ?_
    ·rintro⟨⟨i',a,cap,rest,cmd,ta,tc,na,nc⟩,It,Xx,Tc,hq3,hq4,hq5,hq6⟩;dsimp only at It Xx Tc hq3 hq4 hq5 hq6 ⊢;have N2:0<rest.length:=gL.2 It;refine xS ?_;refine pj (l:=1) (h:=rest.length) U U U U (Bd.at U U) Bd.no bw bw hq3 λa2 c2 Qq=>?_;have Il:(rest.drop 1).take (rest.length - 1)=rest.tail:=by rw[List.drop_one,bI dW]
     rw[Il];have vF:rest.tail.length=rest.length - 1:=List.length_tail;refine xS ?_;refine X.less (ih ⟨⟨i+1,a2,c2,rest.tail,cmd,ta,tc,na,nc⟩,Xx,Tc,by dsimp only;omega,by dsimp only;omega,by dsimp only;omega,by dsimp only;omega,λx hx=>hq6 x (List.mem_of_mem_tail hx)⟩ oQ) (Sub.cons (dI U nM) (Sub.cons U (Sub.cons U (Sub.cons (dI U (by dsimp only;rw[vF])) (Sub.of U))))) bA
    intro kk nxt;obtain⟨x,r,hxr⟩:∃x r,rest=x::r:=by cases rest with|nil=>exact aD U hre|cons x r=>exact⟨x,r,U⟩
    have hx0:rest[0]'N2=x:=by simp[hxr]
    rw[hxr]at l6;rw[Hj]at l6;have hxl:=hp7 x (by simp[hxr]);refine ly a 0 N2 λba oa hba=>?_;subst hba;rw[hx0];by_cases D7:nd=[110]
    ·rw[ao D7]at l6;subst D7;refine xS ?_;refine fU 5 [2,0] ?_;apply dB [0,1,2,3,4] U U U
     ·exact Hk
     ·rfl
     ·rfl
     refine xS ?_;cases CQ:zM x with
     |false=>
      rw[CQ]at l6;exact fC hG hb (Ub x bw) U U U (bS.refl _) (λ_ _=>⟨(),l6,U,U⟩) (λx hx=>by rw[CQ]at hx;cases hx)
     |true=>
      rw[CQ]at l6;refine fC hG hb (Ub x bw) U U U (bS.refl _) (λ_ he=>by rw[CQ]at he;cases he) ?_;rintro v hv _ _ ⟨rfl,rfl⟩;rw[CQ]at hv;cases hv;refine xD ?_;refine xZ ?_;intro b9;refine fH (Hi x) U U U U FL U cE cE cE cE cE bw λa9 c9=>xS ?_;exact X.W (nxt ⟨⟨i,aN ⟨ba,oa,aO⟩,cap,rest,{cmd with iV:=cmd.iV++[Hi x]},ta,tc,a9,c9⟩,hre,by rw[l6,hxr];rfl,vo,hp4,by dsimp only;omega,by simp;omega,hp7⟩)
    rw[aj D7]at l6;rw[show(nd==[110])=aQ from by simpa using D7];refine xS ?_;by_cases vm:nd=[120]
    ·rw[ao vm]at l6;subst vm;refine xS ?_;refine fU 5 [2,0] ?_;apply dB [0,1,2,3,4] U U U
     ·exact Hk
     ·rfl
     ·rfl
     refine xS ?_;cases CQ:Bw x with
     |error e=>
      rw[CQ]at l6;exact fC hG hb (Lz x) U U U (bS.refl _) (λ_ _=>⟨(),l6,U,U⟩) (λx hx=>by rw[CQ]at hx;cases hx)
     |ok v=>
      rw[CQ]at l6;refine fC hG hb (Lz x) U U U (bS.refl _) (λ_ he=>by rw[CQ]at he;cases he) ?_;rintro v' hv _ _ ⟨rfl,rfl⟩;rw[CQ]at hv;cases hv;refine xD ?_;refine xZ ?_;intro b9;refine fH (v) U U U U FL U cE cE cE cE cE bw λa9 c9=>xS ?_;exact X.W (nxt ⟨⟨i,aN ⟨ba,oa,aO⟩,cap,rest,{cmd with iV:=cmd.iV++[v]},ta,tc,a9,c9⟩,hre,by rw[l6,hxr];rfl,vo,hp4,by dsimp only;omega,by simp;omega,hp7⟩)
    rw[aj vm]at l6;rw[show(nd==[120])=aQ from by simpa using vm];clear vm;refine xS ?_;by_cases vm:nd=[116]
    ·rw[ao vm]at l6;subst vm;refine xS ?_;refine fU 5 [2,0] ?_;apply dB [0,1,2,3,4] U U U
     ·exact Hk
     ·rfl
     ·rfl
     refine xS ?_;cases CQ:vx x with
     |error e=>
      rw[CQ]at l6;exact fC hG hb (wX x bw) U U U (bS.refl _) (λ_ _=>⟨(),l6,U,U⟩) (λx hx=>by rw[CQ]at hx;cases hx)
     |ok v=>
      rw[CQ]at l6;refine fC hG hb (wX x bw) U U U (bS.refl _) (λ_ he=>by rw[CQ]at he;cases he) ?_;rintro v' hv _ _ ⟨rfl,rfl⟩;rw[CQ]at hv;cases hv;refine xD ?_;refine xZ ?_;intro b9;refine fH (v) U U U U FL U cE cE cE cE cE bw λa9 c9=>xS ?_;exact X.W (nxt ⟨⟨i,aN ⟨ba,oa,aO⟩,cap,rest,{cmd with texts:=cmd.texts++[v]},a9,c9,na,nc⟩,hre,by rw[l6,hxr];rfl,vo,hp4,by simp;omega,by dsimp only;omega,hp7⟩)
    rw[aj vm]at l6;rw[show(nd==[116])=aQ from by simpa using vm];clear vm;refine xS ?_;by_cases vm:nd=[84]
    ·rw[ao vm]at l6;subst vm;refine xS ?_;have hE0:∀tl,Bx (cmd.texts++·) (pS rest)=.ok tl->um (w::l)=j8 (s.iU.drop (i+1)) {cmd with texts:=tl} []:=by
      intro tl hl;rw[l6];rw[hxr]at hl;cases hq:pS (x::r)with
      |error e=>rw[hq]at hl;cases hl
      |ok z=>rw[hq]at hl;cases hl;rfl
     have hE1:(∃e,Bx (cmd.texts++·) (pS rest)=.error e)->um (w::l)=.error ():=by
      rintro⟨e,hl⟩;rw[l6];rw[hxr]at hl;cases hq:pS (x::r)with
      |error e=>rfl
      |ok z=>rw[hq]at hl;cases hl
     refine X.loop (ι:={p:CmI // p.rest≠[]/\Bx (cmd.texts++·) (pS rest)=Bx (p.cmd.texts++·) (pS p.rest)/\p.rest.length<=p.cap/\p.rest.length+p.cmd.texts.length<=n/\∀x∈p.rest,x.length<=1000000}) (λp=>([(27,bR i),(26,bR s.iU.length),(25,.slice (aN ⟨bq,oq,aO⟩) s.iU.length s.iU.length),(0,.slice p.1.a p.1.rest.length p.1.cap),(2,bu b2),(3,bu b3)],
      [bx b3 60 [bn w,.slice p.1.ta p.1.cmd.texts.length p.1.tc,.slice na cmd.iV.length nc],own 9 1 p.1.ta p.1.cmd.texts.length p.1.tc (p.1.cmd.texts.flatMap λk:Bs=>[bn k]),own 3 1 na cmd.iV.length nc (cmd.iV.flatMap λk:ab=>[bR k]),bx b2 60 [bn [],.slice aO 0 0,.slice aO 0 0],dp RS 1 (aN ⟨bq,oq,aO⟩) s.iU,dp RS 1 p.1.a p.1.rest])) (λp=>p.1.rest.length) ⟨⟨i,aN ⟨ba,oa,aO⟩,cap,rest,cmd,ta,tc,na,nc⟩,hre,U,hp4,by dsimp only;omega,hp7⟩ (Sub.of U) bA ?_
     rintro⟨⟨_,a2,cap2,vy,⟨_,texts,_⟩,ta2,tc2,_,_⟩,hz0,HX,hz2,hz3,hz4⟩ rb;dsimp only at hz0 HX hz2 hz3 hz4 ⊢;have hrl2:0<vy.length:=gL.2 hz0;obtain⟨y,r2,hyr⟩:∃y r2,vy=y::r2:=by cases vy with|nil=>exact aD U hz0|cons x r=>exact⟨x,r,U⟩
     have hy0:vy[0]'hrl2=y:=by simp[hyr]
     have Ci:=hz4 y (by simp[hyr]);have hrl3:vy.length=r2.length+1:=by simp[hyr]
     refine ly a2 0 hrl2 λba2 oa2 hba2=>?_;subst hba2;rw[hy0];rw[hyr,pS]at HX;refine xB ?_ ?_<;>intro OO
     ·have OO:1<vy.length:=by simp at OO;omega
      refine xS ?_;refine fU 5 [1,0] ?_;apply dB [0,1,2,3,4] U U U
      ·exact Hk
      ·rfl
      ·rfl
      refine xS ?_;cases CQ:vx y with
      |error e=>
       exact bg9
      |ok v=>
       rw[CQ]at HX;refine fC hG hb (wX y bw) U U U (bS.refl _) (λ_ he=>by rw[CQ]at he;cases he) ?_;rintro v' hv _ _ ⟨rfl,rfl⟩;rw[CQ]at hv;cases hv;refine xD ?_;refine xZ ?_;intro b9;refine fH (v) U U U U FL U cE cE cE cE cE bw λa9 c9=>xS ?_;refine pj (l:=1) (h:=vy.length) U U U U (Bd.at U U) Bd.no bw bw hz2 λa3 c3 hc3=>?_;rw[show(vy.drop 1).take (vy.length - 1)=r2 from by rw[hyr];simp,show vy.length - 1=r2.length from by omega];refine xS ?_;refine X.W (rb ⟨⟨i,a3,c3,r2,{cmd with texts:=texts++[v]},a9,c9,na,nc⟩,by rintro rfl;simp at hrl3;omega,?_,by dsimp only;omega,by simp;omega,λz hz=>hz4 z (by rw[hyr];simp[hz])⟩ oQ);rw[HX];cases pS r2<;>simp[Bx]
     ·have h1m:vy.length=1:=by simp at OO;omega
      have OO:r2=[]:=List.eq_nil_of_length_eq_zero bw;subst OO;refine xS ?_;refine fU 5 [1,0] ?_;apply dB [0,1,2,3,4] U U U
      ·exact Hk
      ·rfl
      ·rfl
      refine xS ?_;cases CQ:vx y with
      |error e=>
       exact bg9
      |ok v=>
       rw[CQ]at HX;refine fC hG hb (wX y bw) U U U (bS.refl _) (λ_ he=>by rw[CQ]at he;cases he) ?_;rintro v' hv _ _ ⟨rfl,rfl⟩;rw[CQ]at hv;cases hv;refine xD ?_;refine xZ ?_;intro b9;refine fH (v) U U U U FL U cE cE cE cE cE bw λa9 c9=>xS ?_;exact X.W (nxt ⟨⟨i,aN ⟨ba2,oa2,aO⟩,cap2,vy,{cmd with texts:=texts++[v]},a9,c9,na,nc⟩,hz0,by rw[hE0 (texts++[v]) (by rw[HX];rfl),hyr];rfl,vo,hz2,by simp;omega,by dsimp only;omega,hz4⟩)
    rw[aj vm]at l6;rw[show(nd==[84])=aQ from by simpa using vm];clear vm;refine xS ?_;refine ph [0,2,3,4] [0] ?_;apply dB [0,2,3,4] U U U
    ·exact Hk
    ·rfl
    ·rfl
    refine xS ?_;refine cP (Ns GG nd 124 bw) ?_;rintro _ _ ⟨aS,cS,rfl,hcS,rfl⟩;refine xD ?_;refine xJ (FD GG aS _ cS (splitB 124 nd) x U (by rw[uP];have:cZ nd 124<=nd.length:=List.count_le_length;omega)) ?_;cases XC:(splitB 124 nd).contains x with
    |false=>
     rw[XC]at l6;exact al1
    |true=>
     rw[XC]at l6;refine fC hG hb (kH GG aP) U U U (bS.refl _) (λe he=>by cases he) ?_;rintro _ _ _ _ ⟨rfl,rfl⟩;refine xD ?_;refine fU 5 [3,1] ?_;apply dB [0,1,2,3,4] U U U
     ·exact Hk
     ·rfl
     ·rfl
     refine xZ ?_;intro b9;refine fH (x) U U U U FL U cE cE cE cE cE bw λa9 c9=>xS ?_;exact X.W (nxt ⟨⟨i,aN ⟨ba,oa,aO⟩,cap,rest,{cmd with texts:=cmd.texts++[x]},a9,c9,na,nc⟩,hre,by rw[l6,hxr];rfl,vo,hp4,by simp;omega,by dsimp only;omega,hp7⟩)
   ·subst hi;rw[cx (bz _),j8]at l6;refine xS ?_;cases sS:rest with
    |nil=>
     rw[ao sS]at l6;refine xS ?_;refine fC hG hb (kH GG aP) U U U (bS.refl _) (λe he=>by cases he) ?_;rintro _ _ _ _ ⟨rfl,rfl⟩;refine xD ?_;refine dR ta (λk:Bs=>[bn k]) cmd.texts U U (λ_=>rfl) λFu=>?_;refine dR na (λk:ab=>[bR k]) cmd.iV U U (λ_=>rfl) λQq=>?_;subst vo;exact cT hb (.jf U U .nil) ⟨cmd,l6,((ta,tc),(na,nc)),U,Fu,Qq,U⟩
    |cons x r=>
     rw[aj (by rw[sS];simp)]at l6;rw[show((((x::r).length:ab):ae)==0)=aQ from by rw[beq_eq_false_iff_ne];simp;omega];exact al1
 intro fin
 refine ph [1,2,3,5,6,7] [2] ?_
 apply dB [1,2,3] U U U
 ·exact Hk
 ·rfl
 ·rfl
 refine eN U U U U U ?_ ?_
 ·skip
  refine cP (va GG w) ?_
  rintro _ _ ⟨m,M,cs,XX,rfl,hM1,hM2,hR,rfl⟩
  dsimp only[bh,bk,bj]
  obtain⟨aq,nq,f1,f2,rfl,kN⟩:=hR.cells
  refine X.uv ?_
  refine eN U U U U U ?_ ?_
  ·skip
   refine Yd w dy U U U U (zv:=.agg #[.slice aO 0 0,.nilFunc,.nilFunc]) (λw _=>Tryz.zeroValue121 w) ?_
   rw[hM1,hM2]
   refine X.uv ?_
   refine xL [5,6,7] ?_
   refine nU U U U U ?_
   refine xA ?_
   intro b4
   exact bX3
  ·skip
   refine xA ?_
   intro b4
   exact bN9
 ·skip
  refine xA ?_
  intro b4
  refine cP (va GG w) ?_
  rintro _ _ ⟨m,M,cs,XX,rfl,hM1,hM2,hR,rfl⟩
  dsimp only[bh,bk,bj]
  obtain⟨aq,nq,f1,f2,rfl,kN⟩:=hR.cells
  refine xS ?_
  exact bN9
end
section
variable(k:ab)(s t:Bs)(G:dA)(x:ab)(A:Y bG)
abbrev WC:=H5×(ah aX×ab)×(ah aX×ab)
abbrev WO(x:WC):Y aR:=[bn x.1.word,.slice x.2.1.1 x.1.texts.length x.2.1.2,.slice x.2.2.1 x.1.iV.length x.2.2.2]
def roC(q:Y WC):bG:=ro λr=>∀x∈q,(x.1.texts.length<=x.2.1.2/\x.1.iV.length<=x.2.2.2)/\xm RS 1 x.2.1.1 x.1.texts r/\xm RN 1 x.2.2.1 x.1.iV r
section
variable {P:aT}{b:bc}{O:de}{k:Kt}{E:Env}{H:Y bG}{R:aZ->Y bG->Prop}{cc:ah (ar aW×Y aW)}
class FRC(H:Y bG)(q:Y WC):Prop where out:∃F,bS H (roC q::F)
instance FRC.here(q:Y WC)(H:Y bG):FRC (roC q::H) q:=⟨H,bS.refl _⟩
instance(priority:=low) FRC.there(p:bG)(H:Y bG)(q:Y WC)[h:FRC H q]:FRC (p::H) q:=
 let⟨F,hr⟩:=h.out;⟨p::F,(bS.cons p hr).trans (eo _ _ _)⟩
theorem bB0(h:X P b O cc k E (roC []::H) R):X P b O cc k E H R:=
 X.dE (Hs':=roC []::H) (λ_ o hs=>⟨gI,o,ef _,dQ _,.refl _,λ_ _ x hx=>vE,hs⟩) h
theorem bC9(q:Y WC)(y:WC)(h1:y.1.texts.length<=y.2.1.2)(h2:y.1.iV.length<=y.2.2.2)[hf:FRC H q][hs:BQ H y.2.1.1 RS 1 y.1.texts][vQ:BQ H y.2.2.1 RN 1 y.1.iV]
 (h:X P b O cc k E (roC (q++[y])::H) R):X P b O cc k E H R:=by
 obtain⟨F,hF⟩:=hf.out
 obtain⟨F2,hF2⟩:=hs.out
 obtain⟨F3,hF3⟩:=vQ.out
 refine X.dE ?_ h
 intro r o hh
 obtain⟨o1,o2,_,_,_,l6,_⟩:=hF r o hh
 obtain⟨o3,o4,_,_,_,vo,_⟩:=hF2 r o hh
 obtain⟨o5,o6,_,_,_,hp3,_⟩:=hF3 r o hh
 refine⟨gI,o,ef _,dQ _,.refl _,λr' pg x hx=>?_,hh⟩
 rcases du.1 hx with hx|hx
 ·exact l6 r' pg x hx
 ·obtain rfl:=cK.1 hx;exact⟨⟨h1,h2⟩,vo r' pg,hp3 r' pg⟩
theorem bB9(q:Y WC)(y:WC)(hy:y∈q)[hf:FRC H q](h:y.1.texts.length<=y.2.1.2->y.1.iV.length<=y.2.2.2->X P b O cc k E (dp RS 1 y.2.1.1 y.1.texts::dp RN 1 y.2.2.1 y.1.iV::H) R):X P b O cc k E H R:=by
 obtain⟨F,hF⟩:=hf.out;refine j9 λw hs=>?_;have h1:=Sat.ro (hs.dE hF) y hy;have e1:=js (q:=Go.Sl.xm RN 1 y.2.2.1 y.1.iV) hF (λr hr=>(hr y hy).2.2);have e2:=js (q:=Go.Sl.xm RS 1 y.2.1.1 y.1.texts) (e1.trans ((bS.cons _ hF).trans (eo _ _ _))) (λr hr=>(hr y hy).2.1);refine⟨_,(hs.dE e1).dE ?_,h h1.1.1 h1.1.2⟩;exact js (q:=Go.Sl.xm RS 1 y.2.1.1 y.1.texts) ((bS.cons _ hF).trans (eo _ _ _)) (λr hr=>(hr y hy).2.1)
end
theorem aL7:TD0 be G 52 #[bu x] A A:=λO w _ hs=>by
 have h1:∀w:aV,(binOp BinOp.neq 20 .nilIface .nilIface).run be w=.ok (.bool aQ) w:=λ_=>by kernel_rfl
 refine callsD_of_wpS Tryz.func52 U λc₀ cs hu=>?_;apply wpS_seq;apply wpS_region;simp[wpOpsS,go_sem,recoverD,hu,Tryz.ntmps52,Exit.thenS];refine wpS_of_wp ?_;apply wp_seq;apply wp_region;simp[go_sem];simp[wpOps,go_sem,h1,eqGuard,Exit.then];refine .inl (.inl (wp_cond_false ad8 (wp_skip ?_)));simp[Exit.inBlock,bodyPostS,Exit.then];exact⟨.returning,(N9 hu).symm,⟨_,by simp[results];rfl⟩,U,hs⟩
theorem aL8(cs:Y aR)(h:∃v,cs=[v]):TP be G 52 #[bu x] (WK ()) [bx x 48 cs] [bx x 48 [.slice aO 0 0]]:=λO w _ hs=>by
 have h1:∀w:aV,(binOp BinOp.neq 20 (.iface 111 (.agg #[])) .nilIface).run be w=.ok (.bool aP) w:=λ_=>by kernel_rfl
 have h2:∀w:aV,(Instr.typeAssert (.iface 111 (.agg #[])) 20 111 aQ).run be w=.ok (.agg #[]) w:=λ_=>by kernel_rfl
 refine callsD_of_wpS Tryz.func52 U λc₀ cs hu=>?_;have hu:c₀.mode=.panicking [pe (.iface 111 (.agg #[]))]:=hu;apply wpS_seq;apply wpS_region;simp[wpOpsS,go_sem,recoverD,hu,Tryz.ntmps52,Exit.thenS,pe];refine wpS_of_wp ?_;apply wp_seq;apply wp_region;simp[go_sem];simp[wpOps,go_sem,h1,eqGuard,Exit.then];obtain⟨v,rfl⟩:=h;obtain⟨w1,MS,Es⟩:=hs.store (P:=be) (t:=48) (i:=0) (bS.refl _) (v:=.slice aO 0 0) U U U U;refine .inl (.inl (wp_cond_true ad8 ?_));apply wp_seq;apply wp_region;simp[go_sem];simp[wpOps,go_sem,Oper.upon,aU,h2,Exit.then];refine .inl (.inl ?_);apply wp_region;simp[go_sem];simp[wpOps,Region.wanted,Act.eval,Act.put,aU,Oper.wp,Oper.upon,MS,bodyPostS];exact .inl ⟨⟨_,by simp[results];rfl⟩,U,Es⟩
def DS(l:Bs):aB aA (Y H5):=
 if dM wA 0 l<0 then
  match fy l with
  |[]=>.ok []
  |w::r=>if w.headD 0=35 then .ok []else match um (w::r)with
   |.error _=>.error ()
   |.ok c=>.ok [c]
 else .error ()
def lq:ab->Y Bs->Y H5->aB ab (Y H5)
 |_,[],acc=>.ok acc
 |i,l::r,acc=>match DS l with
  |.error _=>.error (i+1)
  |.ok cs=>lq (i+1) r (acc++cs)
def tH(s:Bs):aB ab (Y H5):=lq 0 (splitB 10 s) []
def bX4(r:aB ab (Y H5))(v:aR)(B:Y bG):Prop:=match r with
 |.error i=>v=.tuple #[.slice aO 0 0,bR i]/\B=[]
 |.ok cs=>∃q:Y WC,q.map (·.1)=cs/\∃a c,v=.tuple #[.slice a q.length c,.int .i64 0]/\B=[own 60 3 a q.length c (q.flatMap WO),roC q]
theorem Hl(c:au):∀(s:Bs),∀l∈splitB c s,l.length<=s.length
 |[],l,h=>by grind [splitB]
 |x::r,l,h=>by
  have ih:=Hl c r
  grind [splitB]
theorem rA:∀(l cur:Bs),∀w∈Lib.fieldsGo cur l,w≠[]/\w.length<=cur.length+l.length
 |[],cur,w,h=>by
  grind [Lib.fieldsGo]
 |b::l,cur,w,h=>by
  rw[Lib.fieldsGo]at h;split at h
  ·split at h
   ·have:=rA l [] w h;grind
   ·rename_i hc
    rcases cW.1 h with rfl|h
    ·grind
    ·have:=rA l [] w h;grind
  ·have:=rA l (cur++[b]) w h;grind
theorem LA:(fy s).length<=s.length/\∀w∈fy s,w≠[]/\w.length<=s.length:=
 ⟨by grind [Lib.fields_length,K3],λw hw=>by have:=rA s [] w hw;grind⟩
theorem WQ(hs:s.length<=20000):TR be GG 17 #[bn s] [] (dC (bX4 (tH s))):=by
 refine dH U λb O hb hG=>?_;have hLl:(splitB 10 s).length<=20001:=by grind [uP,cZ]
 have hLm:∀l∈splitB 10 s,l.length<=20000:=λl hl=>bo (Hl 10 s l hl) hs;have cD:lq 0 ((splitB 10 s).drop 0) []=tH s:=U;generalize tH s=res at*;refine xA ?_;intro b2;refine Yp (fst:=[]) (us:=[]) (cap:=[bu b2]) hb U U U (xS ?_);refine cP (Ns GG s 10 bw) ?_;rintro _ _ ⟨aL,cL,rfl,hcL,rfl⟩;dsimp only[bh,bk,bj];generalize splitB 10 s=L at*;refine xS ?_;refine X.dE (fh 60 3 _) ?_;refine bB0 ?_;refine X.loop (ι:={z:ab×Y WC×(ah aX×ab) // z.1<=L.length/\lq z.1 (L.drop z.1) (z.2.1.map (·.1))=res/\z.2.1.length<=z.1}) (λz=>([(0,bn s),(2,bu b2),(9,.slice aL L.length cL),(10,bR L.length),(11,bR z.1.1)],[roC z.1.2.1,own 60 3 z.1.2.2.1 z.1.2.1.length z.1.2.2.2 (z.1.2.1.flatMap WO),bx b2 48 [.slice z.1.2.2.1 z.1.2.1.length z.1.2.2.2],dp RS 1 aL L])) (λz=>L.length - z.1.1)
  ⟨(0,[],(aO,0)),bp _,cD,bz _⟩ (Sub.of U) (show bS _ [roC [],own 60 3 aO 0 0 [],bx b2 48 [.slice aO 0 0],dp RS 1 aL L]from bA) ?_
 rintro⟨⟨i,q,a,c⟩,hi,hp,KX⟩ ih;dsimp only at hi hp KX ⊢;refine xB ?_ ?_<;>intro h
 ·have hi:i<L.length:=bQ;rw[bP hi,lq]at hp;have hl:=hLm _ (bE hi);refine xS ?_;refine dJ U U U U U hi U λbl o=>?_;generalize L[i]=l at*;refine xJ (Nt GG l bw) ?_;by_cases tD:dM wA 0 l<0
  ·rw[show decide (dM wA 0 l<0)=aP from aK tD];refine v7 (us1:=[]) (cap1:=[bu b2]) hG hb (kH GG aP) U U U eC (λe he=>by cases he) ?_;rintro _ _ _ _ ⟨rfl,rfl⟩;refine xD ?_;have hasc:∀x∈l,x.toNat<128:=by grind [Ck,wA]
   obtain⟨nC,hfw⟩:=LA l;rw[DS,ao tD]at hp;refine cP (Vt l bw hasc) ?_;rintro _ _ ⟨aF,rfl,rfl⟩;dsimp only[bh,bk,bj];refine dR aF (λk:Bs=>[bn k]) (fy l) List.map_eq_flatMap U (λ_=>rfl) λ_=>?_;generalize fy l=ws at*;refine xS ?_;cases ws with
   |nil=>
    refine bD 27 aQ U U (xS ?_);exact bh0
   |cons w r=>
    refine bD 27 aP U dW ?_;obtain⟨MS,Rl⟩:=hfw w dW;have HY:0<w.length:=gL.2 MS;refine xS ?_;have h0:0<(w::r).length:=dW;refine ly aF 0 h0 λbf of hF=>?_;subst hF;rw[show(w::r)[0]'h0=w from rfl];refine eA (j:=0) U U U U U bw (xS ?_);refine jG (l:=w) (j:=0) U U U U U HY ?_;have hhd:w.headD 0=w[0]'HY:=bN8;dsimp only at hp;rw[hhd]at hp;generalize w[0]'HY=x at*;refine xS ?_;by_cases h3:x=35
    ·subst h3;rw[ao U]at hp;refine bD 32 aQ U cE (xS ?_);exact bh0
    ·have Qc:((x.toNat:ae)!=35)=aP:=by
      rw[bne_iff_ne];intro h;have e1:(35:au).toNat=35:=U;exact h3 (UInt8.toNat_inj.1 bw)
     rw[aj h3]at hp;refine bD 33 aP U Qc (xS ?_);refine fU 2 [5] ?_;refine xL [0,1] ?_;refine xS ?_;refine XV (us1:=[]) (cap1:=[bu b2]) hG hb [(2,bu b2),(3,bR (i+1:ab))] (ak9 (aN ⟨bf,of,aO⟩) (w::r).length (w::r).length w r U (bz _) (λx hx=>bo (hfw x hx).2 bw) bw) U U U bS.es (Sub.of U) U (λe he=>?_) ?_
     ·rw[he]at hp;have hp:Except.error (i+1)=res:=hp;subst hp;exact bh1
     ·rintro qc hqc v B ⟨p,rfl,l6,vo,rfl⟩;rw[hqc]at hp;refine xD ?_;refine xZ ?_;intro b9;refine fH ((qc,p)) U U U U bw U cE cE cE cE cE bw λa9 c9=>xS ?_;refine bC9 q (qc,p) l6 vo ?_;have hp:lq (i+1) (L.drop (i+1)) (q.map (·.1)++[qc])=res:=hp;exact X.W (ih ⟨(i+1,q++[(qc,p)],a9,c9),by omega,by grind,by grind⟩ bQ)
  ·rw[show decide (dM wA 0 l<0)=aQ from aM tD];rw[DS,aj tD]at hp;have hp:Except.error (i+1)=res:=hp;subst hp;refine v7 (us1:=[]) (cap1:=[bu b2]) hG hb (kH GG aQ) U U U eC (λe he=>?_) (λx hx=>by cases hx);exact bh1
 ·have hi:i=L.length:=bQ;subst hi;rw[cx (bz _),lq]at hp;subst hp;refine xS ?_;exact SO (us:=[]) (cap:=[bu b2]) hb hG (aL7 GG b2 []) (.cell U U (.tmp U .nil)) ⟨_,⟨q,U,a,c,U,U⟩,bA⟩
def Iw(e:ae):Prop:= -9223372036854775808<=e/\e<=9223372036854775807
theorem xl(B A F:Y bG):bS ((B++A)++F) ((A++F)++B):=by
 rw[cB];exact ew cH
theorem vc(u:az):(bB u.toNat).length<=20:=by
 rw[Lib.decDigits_length];exact Lib.nDigits_le20 _ u.toNat_lt
section
variable {S D:ab}{x:gW}{d:cd}{w:Bs}{a na:ah aX}{c nn nc:ab}
theorem aL9(k v:Bs)(hl:d.files.length<=100000000000)(hw:x.wr.lZ)(iP:eZ x.dir+1<=1000000000)(he:Iw (x.put d k v).2):
 TR be GG 99 #[bu S,.agg #[bn w,.slice a 2 c,.slice na nn nc]] [eL (S,D,0) x,cJ D d,dp RS 1 a [k,v]] (dC λu B=>u=bn (eH (x.put d k v).2)/\B=[eL (S,D,0) (x.put d k v).1.1,cJ D (x.put d k v).1.2]):=by
 refine bZ U λb O hb hG=>?_
 refine ly a 0 dW λbl o ha=>?_
 subst ha
 refine ly (aN ⟨bl,o,aO⟩) 1 dW λbl' o' ha=>?_
 cases ha
 rw[show[k,v][0]=k from rfl,show[k,v][1]=v from rfl]
 refine xP ?_
 intro b3
 refine fU 9 [0,2,1] ?_
 apply dB [0,1,2,3,4,5,6,7,8] U U U
 ·intro p hp;refine xS ?_;refine eA (j:=0) U U U U U bw (xS ?_);refine eA (j:=1) U U U U U bw (xS ?_);refine SZ (hf:=Fj.there _ _ _ _ _ _ _ (h:=Fj.there _ _ _ _ _ _ _ (h:=Fj.here _ _ _ _ _ _))) U U U cE (xS ?_);exact hp
 ·rfl
 ·rfl
 refine xS ?_
 refine cP (JU S D x d k v hl hw iP) ?_
 rintro u B ⟨B1,Tq,rfl⟩
 refine X.dE (xl _ _ _) (xD ?_)
 refine cM hG (u9 aK5 _ u B1 Tq he.1 he.2) U U U (ew (cH (l₁:=[_,_,_,_,_,_]) (l₂:=B1))) ?_
 rintro _ _ ⟨rfl,rfl⟩
 refine xD ?_
 exact xR
theorem aM0(ks:Y Bs)(j7:ks.length<=100000)(N:ab)(hx:x.ok N)(hN:N+ks.length<=900000000)(hl:d.files.length<=90000000000)(he:Iw (x.delete d ks).2):
 TR be GG 101 #[bu S,.agg #[bn w,.slice a ks.length c,.slice na nn nc]] [eL (S,D,0) x,cJ D d,dp RS 1 a ks] (dC λu B=>u=bn (eH (x.delete d ks).2)/\B=[eL (S,D,0) (x.delete d ks).1.1,cJ D (x.delete d ks).1.2]):=by
 refine bZ U λb O hb hG=>?_
 refine xP ?_
 intro b3
 refine cP (Bu S D x d a ks.length c ks U N hx hN hl) ?_
 rintro u B ⟨B1,Tq,rfl⟩
 rw[cB]
 refine xS ?_
 refine cP (u9 yl _ u B1 Tq he.1 he.2) ?_
 rintro _ _ ⟨rfl,rfl⟩
 refine xD ?_
 exact xR
def WR(r:Bs×ai×ae):Bs:=if r.2.2≠0 then eH r.2.2 else if r.2.1=aQ then[110,111,116,104,105,110,103]else[61,32]++fw r.1
theorem aM1(k:Bs)(iP:eZ x.dir<=1000000000)(tJ:OH (x.dir.get k).1.place)(he:Iw (x.get d k).2.2.2)(hv:(x.get d k).2.1.length<=100000000):
 TR be GG 102 #[bu S,.agg #[bn w,.slice a 1 c,.slice na nn nc]] [eL (S,D,0) x,cJ D d,dp RS 1 a [k]] (dC λu B=>u=bn (WR (x.get d k).2)/\B=[eL (S,D,0) x,cJ D (x.get d k).1]):=by
 refine bZ U λb O hb hG=>?_
 refine ly a 0 dW λbl o ha=>?_
 subst ha
 rw[show[k][0]=k from rfl]
 refine xP ?_
 intro b3
 refine eA (j:=0) U U U U U bw (xS ?_)
 refine cP (CO S D x d k iP tJ) ?_
 rintro _ B ⟨u,rfl,B1,Tq,rfl⟩
 generalize x.get d k=r at*
 obtain⟨d1,val,is,e⟩:=r
 dsimp only at he hv Tq ⊢
 refine xS ?_
 rcases Tq with⟨rfl,rfl,rfl⟩|⟨mf,p,rfl,rfl⟩
 ·dsimp only[bh,bk,bj];refine mO U U U U U (xS ?_);cases is with
  |false=>
   exact xR
  |true=>
   refine xJ (pR val bw) ?_;have hl:=gA val;exact xR
 ·dsimp only[bh,bk,bj];refine mO U U U U U (xS ?_);refine cP (u9 aK4 _ _ _ (.inr ⟨mf,p,U,U⟩) he.1 he.2) ?_;rintro _ _ ⟨rfl,rfl⟩;refine xD ?_;exact cT hb (.tmps U) ⟨by unfold WR;rw[ao mf];rfl,U⟩
theorem al3(he:Iw (x.sync d).2):
 TR be GG 103 #[bu S,.agg #[bn w,.slice a nn c,.slice na nn nc]] [eL (S,D,0) x,cJ D d] (dC λu B=>u=bn (eH (x.sync d).2)/\B=[eL (S,D,0) (x.sync d).1.1,cJ D (x.sync d).1.2]):=by
 refine bZ U λb O hb hG=>?_
 refine xP ?_
 intro b3
 refine cP (Hd S D x d) ?_
 rintro u B ⟨B1,Tq,rfl⟩
 rw[cB]
 refine xS ?_
 refine cP (u9 JV _ u B1 Tq he.1 he.2) ?_
 rintro _ _ ⟨rfl,rfl⟩
 refine xD ?_
 exact xR
theorem WS(hc:x.R5)(hl:d.files.length<=50000000000)(zp:(WD.close (x.wr,d)).1.2.files.length<=50000000000)(qx:(mJ (WD.close (x.wr,d)).1.2 x.ed).1.files.length<=100000000000)(he:Iw (x.merge d).2):
 TR be GG 104 #[bu S,.agg #[bn w,.slice a nn c,.slice na nn nc]] [eL (S,D,0) x,cJ D d] (dC λu B=>u=bn (eH (x.merge d).2)/\B=[eL (S,D,0) (x.merge d).1.1,cJ D (x.merge d).1.2]):=by
 refine bZ U λb O hb hG=>?_
 refine xP ?_
 intro b3
 refine cP (DP S D x d hc hl zp qx) ?_
 rintro u B ⟨B1,Tq,rfl⟩
 rw[cB]
 refine xS ?_
 refine cP (u9 CP _ u B1 Tq he.1 he.2) ?_
 rintro _ _ ⟨rfl,rfl⟩
 refine xD ?_
 exact xR
theorem WT(he:Iw (x.close d).2):
 TR be GG 105 #[bu S,.agg #[bn w,.slice a nn c,.slice na nn nc]] [eL (S,D,0) x,cJ D d] (dC λu B=>u=bn (eH (x.close d).2)/\B=[eL (S,D,0) (x.close d).1.1,cJ D (x.close d).1.2]):=by
 refine bZ U λb O hb hG=>?_
 refine xP ?_
 intro b3
 refine cP (DO S D x d) ?_
 rintro u B ⟨B1,Tq,rfl⟩
 rw[cB]
 refine xS ?_
 refine cP (u9 He _ u B1 Tq he.1 he.2) ?_
 rintro _ _ ⟨rfl,rfl⟩
 refine xD ?_
 exact xR
def py(l:Y Bs):Bs:=[107,101,121,115]++l.flatMap λk=>32::fw k
def vd(l:Y (Bs×Bs)):Bs:=[97,108,108]++l.flatMap λx=>32::(fw x.1++32::fw x.2)
theorem al4:
 TR be GG 108 #[bu S,.agg #[bn w,.slice a nn c,.slice na nn nc]] [eL (S,D,0) x,cJ D d] (dC λu B=>u=bn ([108,97,115,116,32]++bB x.last.toNat)/\B=[eL (S,D,0) x,cJ D d]):=by
 refine bZ U λb O hb hG=>?_
 refine xP ?_
 intro b3
 refine cP (Hc GG S D x) ?_
 rintro u B ⟨rfl,rfl⟩
 refine xD ?_
 refine xJ (Bv x.last) ?_
 have hl:=vc x.last
 exact xR
end
section
variable {S D B:ab}{x:gW}{d:cd}{w:Bs}{a na:ah aX}{c n nn nc:ab}{sv:aR}
theorem nT{α:Type}(f:α->Bs)(K:ab):∀l:Y α,(∀y∈l,(f y).length<=K)->(l.flatMap f).length<=l.length*K
 |[],_=>by simp
 |y::r,h=>by
  have h1:=h y dW
  have h2:=nT f K r λz hz=>h z (by simp[hz])
  grind [ic]
theorem Kg{P:aT}{b:bc}{O:de}{k:Kt}{E:Env}{H:Y bG}{R:aZ->Y bG->Prop}{cc:ah (ar aW×Y aW)}{α:Type}(Re:Rp α)(sz:ab)(h:X P b O cc k E (dp Re sz aO []::H) R):X P b O cc k E H R:=
 X.dE (Hs':=dp Re sz aO []::H) (λ_ o hs=>⟨gI,o,ef _,dQ _,.refl _,λ_ _=>.inl U,hs⟩) h
theorem al5(iP:eZ x.dir<=1000000000)(hkn:x.keys.length<=1000000000)(hk:∀k∈x.keys,k.length<=100000000):
 TR be GG 106 #[bu S,.agg #[bn w,.slice a n c,.slice na nn nc]] [eL (S,D,0) x,cJ D d] (dC λu B=>u=bn (py x.keys)/\B=[eL (S,D,0) x,cJ D d]):=by
 refine bZ U λb O hb hG=>?_
 refine xP ?_
 intro b3
 refine cP (sA S D x iP) ?_
 rintro _ _ ⟨ak,ck,rfl,rfl⟩
 have hke:(if x.closed=aP then[]else x.dir.keys)=x.keys:=U
 rw[hke]
 dsimp only[bh,bk,bj]
 generalize x.keys=K at*
 refine dR ak (λk:Bs=>[bn k]) K U U (λ_=>rfl) λ_=>?_
 have nC:∀i,((K.take i).flatMap λk=>32::fw k).length<=K.length*300000002:=λi=>by
  refine bo (nT _ 300000002 _ λy hy=>?_) (eB _ bQ)
  grind [gA]
 refine xS ?_
 refine X.loop (ι:={z:ab // z<=K.length}) (λz=>([(5,bn (py (K.take z.1))),(9,.slice ak K.length ck),(10,bR K.length),(11,bR z.1)],[dp RS 1 ak K,eL (S,D,0) x,cJ D d])) (λz=>K.length - z.1)
  ⟨0,bp _⟩ (Sub.of U) bA ?_
 rintro⟨i,hi⟩ ih
 dsimp only at hi ⊢
 refine yB (i<K.length) (i=K.length) ?_ ?_<;>intro hi
 ·have ht:py (K.take (i+1))=py (K.take i)++([32]++fw K[i]):=bO0;have PF:=hk _ (bE hi);have ih:=ih ⟨i+1,by omega⟩ bQ;dsimp only at ih;rw[ht]at ih;have Jf:(py (K.take i)).length<=K.length*300000002+4:=by grind [py]
  generalize py (K.take i)=acc at*;refine xS ?_;refine dJ U U U U U hi U λbl o=>?_;generalize K[i]=key at*;have Il:=gA key;refine xJ (pR key bw) ?_;generalize fw key=tk at*;refine xS ?_;exact Hm
 ·subst hi;rw[bV];exact xR
theorem aM2(iP:eZ x.dir<=1000000000)(tJ:∀k,OH (x.dir.get k).1.place)(hkn:x.keys.length<=1000000000)(han:(x.all d).1.length<=1000000000)(hk:∀y∈(x.all d).1,y.1.length<=100000000/\y.2.length<=100000000):
 TR be GG 107 #[bu S,.agg #[bn w,.slice a n c,.slice na nn nc]] [eL (S,D,0) x,cJ D d] (dC λu B=>u=bn (vd (x.all d).1)/\B=[eL (S,D,0) x,cJ D (x.all d).2]):=by
 refine bZ U λb O hb hG=>?_
 have hit:=λp=>T9 p S D x d iP tJ hkn
 generalize x.all d=r at*
 obtain⟨L,d1⟩:=r
 dsimp only at hit han hk ⊢
 have nC:∀l:Y (Bs×Bs),(∀y∈l,y∈L)->l.length<=L.length->(vd l).length<=L.length*700000000+3:=λl hl vF=>by
  unfold vd;rw[bK];have:=nT (λx:Bs×Bs=>32::(fw x.1++32::fw x.2)) 700000000 l λy hy=>by
   have h1:=gA y.1;have h2:=gA y.2;have h3:=hk y (hl y hy);exact bh2
  exact bh3
 refine xP ?_
 intro b3
 refine xA ?_
 intro b5
 refine cP (JW GG S) ?_
 rintro _ _ ⟨p,rfl,rfl⟩
 refine xD ?_
 refine II hG hb (hit p) U (λpre=>[bx b5 9 [bn (vd pre)]]) [bx b5 9 [bn [97,108,108]]] U (λ_=>rfl) eK ?_ ?_
 ·intro b' β' l' r pre y post hx mM BS hr;have sF:vd (pre++[y])=vd pre++([32]++fw y.1++[32]++fw y.2):=by unfold vd;rw[List.flatMap_append];simp
  have Jf:=nC pre (λz hz=>by rw[hx];simp[hz]) (by rw[hx,bK];omega);have Ci:=hk y (by rw[hx];simp);rw[sF];generalize vd pre=acc at*;obtain⟨k,v⟩:=y;have Il:=gA k;have htv:=gA v;dsimp only[AB]at Ci Il htv ⊢;refine xS ?_;refine qO mM hr (xS ?_);refine ph [0,1,3,4,5,7,8] [1] ?_;refine xL [0,1,5] ?_;refine xS ?_;refine jJ BS (pR k bw) U U U ?_;generalize fw k=tk at*;refine xS ?_;apply dB [3,4] U U U
  ·intro p hp;refine xS ?_;refine xS ?_;exact hp
  ·rfl
  ·rfl
  refine xS ?_;refine jJ BS (pR v bw) U U U ?_;generalize fw v=tv at*;refine xS ?_;exact lT mM
 ·intro D2;refine xD ?_;exact z7 hb (.tmps U) ⟨_,⟨U,U⟩,bA⟩
theorem al6(hk:k<=1000000000):
 TR be GG 110 #[bu B,.agg #[bn w,.slice a n c,.slice na 1 nc]] [bx B 53 [bu D,sv],cJ D d,dp RN 1 na [k]] (dC λu C=>u=bn (eH (d.fail k).2)/\C=[bx B 53 [bu D,sv],cJ D (d.fail k).1]):=by
 refine bZ U λb O hb hG=>?_
 have he:Iw (d.fail k).2:=by grind [cd.fail,Iw]
 refine ly na 0 dW λbl o ha=>?_
 subst ha
 rw[show[k][0]=k from rfl]
 refine xP ?_
 intro b3
 refine fU 8 [2,0,1] ?_
 apply dB [0,1,2,3,4,5,6,7] U U U
 ·exact Hk
 ·rfl
 ·rfl
 refine xE (NZ GG D d k bw) ?_
 refine xJ (nS _ he.1 he.2) ?_
 exact xR
abbrev ve:Bs:=[98,101,104,105,110,100]
theorem WU(hk:k<=1000000000)(t:Bs):
 TR be GG 112 #[bu B,.agg #[bn w,.slice a 1 c,.slice na 1 nc]] [bx B 53 [bu D,sv],cJ D d,dp RS 1 a [t],dp RN 1 na [k]] (dC λu C=>u=bn (eH (d.break k (t==ve)).2)/\C=[bx B 53 [bu D,sv],cJ D (d.break k (t==ve)).1]):=by
 refine bZ U λb O hb hG=>?_
 have he:Iw (d.break k (t==ve)).2:=by grind [cd.break,Iw]
 refine ly na 0 dW λbl o ha=>?_
 subst ha
 rw[show[k][0]=k from rfl]
 refine ly a 0 dW λbt p ha=>?_
 subst ha
 rw[show[t][0]=t from rfl]
 refine xP ?_
 intro b3
 refine fU 13 [3,0,2,1] ?_
 apply dB [0,1,2,3,4,5,6,7,8,9,10,11,12] U U U
 ·intro p hp;refine xS ?_;refine eA (j:=0) U U U U U bw (xS ?_);exact bh4
 ·rfl
 ·rfl
 refine xE (Jn GG D d k (t==ve) bw) ?_
 refine xJ (nS _ he.1 he.2) ?_
 exact xR
theorem al7(hu:d.used<=4194304):
 TR be GG 117 #[bu B,.agg #[bn w,.slice a n c,.slice na nn nc]] [bx B 53 [bu D,sv],cJ D d] (dC λu C=>u=bn ([117,115,101,100,32]++ib d.used)/\C=[bx B 53 [bu D,sv],cJ D d]):=by
 refine bZ U λb O hb hG=>?_
 refine xP ?_
 intro b3
 refine cP (NY GG D d) ?_
 rintro _ _ ⟨rfl,rfl⟩
 refine xD ?_
 refine xJ (xG d.used bw bw) ?_
 have hl:=eJ (d.used:ae) bw bw
 exact xR
theorem WV:
 TR be GG 113 #[bu B,.agg #[bn w,.slice a n c,.slice na 1 nc]] [bx B 53 [bu D,sv],cJ D d,dp RN 1 na [k]] (dC λu C=>u=bn [111,107]/\C=[bx B 53 [bu D,.pointer aO],cJ D (d.jU k)]):=by
 refine bZ U λb O hb hG=>?_
 refine ly na 0 dW λbl o ha=>?_
 subst ha
 rw[show[k][0]=k from rfl]
 refine xP ?_
 intro b3
 refine fU 8 [0,1,2] ?_
 apply dB [0,1,2,3,4,5,6,7] U U U
 ·exact Hk
 ·rfl
 ·rfl
 refine xE (Jm GG D d k) ?_
 refine xJ (nS 0 bw bw) ?_
 exact xR
def CR(B:ab)(D0:ab)(sv:aR)(d0:cd)(p:ah cd×ae)(C:Y bG):Prop:=match p with
 |(aN d1,0)=>∃D1,C=[bx B 53 [bu D1,.pointer aO],cJ D1 d1]
 |_=>C=[bx B 53 [bu D0,sv],cJ D0 d0]
theorem al8(hk:k<=1000000000):
 TR be GG 97 #[bu B,.agg #[bn w,.slice a n c,.slice na 1 nc]] [bx B 53 [bu D,sv],cJ D d,dp RN 1 na [k]] (dC λu C=>u=bn (eH (mh k []).2)/\CR B D sv d (mh k []) C):=by
 refine bZ U λb O hb hG=>?_
 refine ly na 0 dW λbl o ha=>?_
 subst ha
 rw[show[k][0]=k from rfl]
 have MK:mh k []=(aO,70)\/∃s,mh k []=(aN s,0):=by
  grind [mh,laid,iq]
 refine xP ?_
 intro b3
 refine eA (j:=0) U U U U U bw (xS ?_)
 refine Kg AP 2 ?_
 refine cP (x9 GG k aO 0 0 [] U eK dW) ?_
 rcases MK with hn|⟨s,hn⟩
 ·exact bh5
 ·exact bh6
end
def sC(f:ca):Bs:=32::(fw f.name++32::ib f.data.length)
def lu(l:Y ca):Bs:=[102,105,108,101,115]++l.flatMap sC
def uo(n:Bs):Y ca->Bs
 |[]=>eH 71
 |f::r=>if f.name=n then[61,32]++fw f.data else uo n r
section
variable {S D B:ab}{x:gW}{d:cd}{w:Bs}{a na:ah aX}{c n nn nc:ab}{sv:aR}
theorem WW(hl:d.files.length<=100000000000):
 TR be GG 115 #[bu B,.agg #[bn w,.slice a n c,.slice na nn nc]] [bx B 53 [bu D,sv],cJ D d] (dC λu C=>u=bn (lu d.all)/\C=[bx B 53 [bu D,sv],cJ D d]):=by
 refine bZ U λb O hb hG=>?_
 refine qV D λeI=>?_
 refine xP ?_
 intro b3
 refine cP (kj GG D d bw) ?_
 rintro _ _ ⟨af,cf,rfl,rfl⟩
 dsimp only[bh,bk,bj]
 have sF:=mH d
 have vP:=λf hf=>(@qg d eI f hf)
 refine pX af cf (l:=d.all) λq hq hqc It=>?_
 rw[<-hq]at sF vP ⊢
 simp only[bF]at sF ⊢
 have vL:∀y∈q,y.1.name.length<=1000/\y.1.data.length<=4194304:=λy hy=>by
  have:=vP y.1 (cu.2 ⟨y,hy,U⟩);exact⟨kC this.1,this.2.1⟩
 have Jf:∀i,(lu ((q.take i).map (·.1))).length<=q.length*4000+5:=λi=>by
  unfold lu;rw[bK];have:=nT sC 4000 ((q.take i).map (·.1)) λf hf=>by
   obtain⟨y,hy,rfl⟩:=cu.1 hf;have h1:=vL y (List.mem_of_mem_take hy);have h2:=gA y.1.name;have h3:=eJ (y.1.data.length:ae) bw bw;unfold sC;exact bh2
  have h4:((q.take i).map (·.1)).length<=q.length:=Wa;have h5:=eB 4000 h4;simp only[bL,dU];omega
 refine xS ?_
 refine X.loop (ι:={z:ab // z<=q.length}) (λz=>([(5,bn (lu ((q.take z.1).map (·.1)))),(12,.slice af q.length cf),(13,bR q.length),(14,bR z.1)],[dp (cy bY) 2 af q,bx B 53 [bu D,sv],cJ D d])) (λz=>q.length - z.1)
  ⟨0,bp _⟩ (Sub.of U) bA ?_
 rintro⟨i,hi⟩ ih
 dsimp only at hi ⊢
 refine yB (i<q.length) (i=q.length) ?_ ?_<;>intro hi
 ·have ht:lu ((q.take (i+1)).map (·.1))=lu ((q.take i).map (·.1))++([32]++fw q[i].1.name++[32]++ib q[i].1.data.length):=by unfold lu;rw[dO hi,dx,List.flatMap_append];simp[sC]
  have Ci:=vL _ (bE hi);have ih:=ih ⟨i+1,by omega⟩ oQ;dsimp only at ih;rw[ht]at ih;have Jf:=Jf i;generalize lu ((q.take i).map (·.1))=acc at*;refine xS ?_;refine dJ U U U U U hi U λbl o=>?_;generalize q[i]=y at*;obtain⟨⟨nm,dt⟩,ya,yc⟩:=y;have Il:=gA nm;dsimp only at Ci ih ⊢;refine xS ?_;refine eT U U U U  ?_;refine xA ?_;intro b7;refine ph [0,1,2,4,5,6,7,8,10,11] [0] ?_;refine xL [0,1,2,6,7,8] ?_;refine xJ (pR nm bw) ?_;generalize fw nm=tk at*;refine xS ?_;refine xL [4,5] ?_;refine xS ?_;have hil:=eJ (dt.length:ae) bw bw;refine xJ (xG dt.length bw bw) ?_;generalize ib dt.length=ti at*;exact Hm
 ·subst hi;rw[bV];exact xR
theorem WX(hl:d.files.length<=100000000000):
 TR be GG 116 #[bu B,.agg #[bn w,.slice a 1 c,.slice na nn nc]] [bx B 53 [bu D,sv],cJ D d,dp RS 1 a [t]] (dC λu C=>u=bn (uo t d.all)/\C=[bx B 53 [bu D,sv],cJ D d]):=by
 refine bZ U λb O hb hG=>?_
 refine qV D λeI=>?_
 refine ly a 0 dW λbt ot ha=>?_
 subst ha
 rw[show[t][0]=t from rfl]
 refine xP ?_
 intro b3
 refine cP (kj GG D d bw) ?_
 rintro _ _ ⟨af,cf,rfl,rfl⟩
 dsimp only[bh,bk,bj]
 have sF:=mH d
 have vP:=λf hf=>(@qg d eI f hf)
 refine pX af cf (l:=d.all) λq hq hqc It=>?_
 rw[<-hq]at sF vP ⊢
 simp only[bF]at sF ⊢
 have vL:∀y∈q,y.1.name.length<=1000/\y.1.data.length<=4194304:=aH2
 have cD:uo t (q.map (·.1))=uo t ((q.map (·.1)).drop 0):=U
 generalize uo t (q.map (·.1))=res at*
 refine xS ?_
 refine X.loop (ι:={z:ab // z<=q.length/\res=uo t ((q.map (·.1)).drop z)}) (λz=>([(3,bu b3),(11,.slice af q.length cf),(12,bR q.length),(13,bR z.1)],[bx b3 60 [bn w,.slice (aN ⟨bt,ot,aO⟩) 1 c,.slice na nn nc],el RS 1 bt (ot+0*1) t,dp (cy bY) 2 af q,eQ ca.data q,bx B 53 [bu D,sv],cJ D d])) (λz=>q.length - z.1)
  ⟨0,bp _,cD⟩ (Sub.of U) bA ?_
 clear cD
 rintro⟨i,hi,cD⟩ ih
 dsimp only at hi cD ⊢
 refine yB (i<q.length) (i=q.length) ?_ ?_<;>intro hi
 ·rw[bP bQ,uo,gG]at cD;have Ci:=vL _ (bE hi);have hym:=bE hi;refine xS ?_;refine dJ U U U U U hi U λbl o=>?_;generalize q[i]=y at*;obtain⟨⟨nm,dt⟩,ya,yc⟩:=y;have Il:=gA dt;dsimp only at Ci cD ⊢;refine xS ?_;refine eT U U U U  ?_;refine xA ?_;intro b6;refine fU 7 [0,2,3] ?_;apply dB [0,1,2,3,4,5,6] U U U
  ·exact Hk
  ·rfl
  ·rfl
  refine xS ?_;by_cases hc:nm=t
  ·subst hc;rw[ao U]at cD;refine bD 23 aP U dW (xS ?_);refine nH (data:=ca.data) q ((⟨nm,dt⟩,ya,yc):WB ca) hym λjT mX=>?_;dsimp only at jT mX ⊢;refine xJ (pR dt bw) ?_;exact ak0
  ·rw[aj hc]at cD;refine bD 23 aQ U bQ (xS ?_);exact X.W (ih ⟨i+1,by omega,cD⟩ bQ)
 ·subst hi;rw[cx dW,uo]at cD;refine xJ (nS 71 bw bw) ?_;exact ak0
end
abbrev kM:Bs:=[102,97,115,116]
def s9(r:aB ae (gW×Sal)):Bs:=match r with
 |.error e=>eH e
 |.ok z=>[111,107,32]++ib z.1.keys.length++[32]++bB z.2.top.toNat++[32]++ib z.2.cG++[32]++ib z.2.dP
def Sa(B D:ab)(r:cd×aB ae (gW×Sal))(C:Y bG):Prop:=match r.2 with
 |.error _=>C=[bx B 53 [bu D,.pointer aO],cJ D r.1]
 |.ok z=>∃S,C=[bx B 53 [bu D,bu S],eL (S,D,0) z.1,cJ D r.1]
abbrev Sb(r:(ah aX×ab×ab)×ae×ae×ae):Y aR:=[.slice r.1.1 r.1.2.1 r.1.2.2,.int .u64 r.2.1,.int .i64 r.2.2.1,.int .i64 r.2.2.2]
theorem sB.shape{D:ab}{r:cd×aB ae (gW×Sal)}{v:aR}{C:Y bG}(h:sB D r v C):∃p rp e,v=.tuple #[p,.agg (Sb rp).toArray,e]/\sB D r (.tuple #[p,.agg (Sb rp).toArray,e]) C:=by
 unfold sB at h;split at h
 ·obtain⟨h1,p,rfl,rfl⟩:=h;rename_i e he;exact⟨_,((aO,0,0),0,0,0),_,U,by grind [sB]⟩
 ·obtain⟨S,fa,fn,fc,rfl,rfl⟩:=h;rename_i z hz;exact⟨_,((fa,fn,fc),_,_,_),_,U,by grind [sB]⟩
theorem oh(p:bG)(F:Y bG):bS (p::F) F:=(ew (cH (l₁:=[p]) (l₂:=F))).trans (ia F [p])
section
variable {S D B:ab}{x:gW}{d:cd}{w:Bs}{a na:ah aX}{c n nn nc:ab}{sv:aR}
theorem al9(k1 k2:ab)(h1:k1<=1000000000)(h2:k2<=1000000000)(hl:d.files.length<=50000000000)(qx:∀m,gV d.all d.cap []=.ok m->(d.nO m.steps).1.files.length<=100000000000)(XI:(mC d (t==kM)).1.files.length<=100000000000)(hz:∀z,(gX d k1 k2 (t==kM)).2=.ok z->eZ z.1.dir<=1000000000/\z.1.keys.length<=1000000000/\z.2.cG<=1000000000000000000/\z.2.dP<=1000000000000000000)(vR:∀e,(gX d k1 k2 (t==kM)).2=.error e->Iw e):
 TR be GG 98 #[bu B,.agg #[bn w,.slice a 1 c,.slice na 2 nc]] [bx B 53 [bu D,sv],cJ D d,dp RS 1 a [t],dp RN 1 na [k1,k2]] (dC λu C=>u=bn (s9 (gX d k1 k2 (t==kM)).2)/\Sa B D (gX d k1 k2 (t==kM)) C):=by
 refine bZ U λb O hb hG=>?_
 refine ly a 0 dW λbt ot ha=>?_
 subst ha
 refine ly na 0 dW λbl o ha=>?_
 subst ha
 refine ly (aN ⟨bl,o,aO⟩) 1 dW λbl' o' ha=>?_
 cases ha
 rw[show[t][0]=t from rfl,show[k1,k2][0]=k1 from rfl,show[k1,k2][1]=k2 from rfl]
 have hT:=Hh D d k1 k2 (t==kM) hl qx XI
 generalize gX d k1 k2 (t==kM)=res at*
 refine xP ?_
 intro b3
 refine iK (ι:={z:ab×aR×((ah aX×ab×ab)×ae×ae×ae)×aR×Y bG // sB D res (.tuple #[z.2.1,.agg (Sb z.2.2.1).toArray,z.2.2.2.1]) z.2.2.2.2}) (λz=>([(0,bu B),(5,z.1.2.1),(6,bu z.1.1),(7,z.1.2.2.2.1)],bx z.1.1 89 (Sb z.1.2.2.1)::bx B 53 [bu D,sv]::z.1.2.2.2.2)) ?fin ?main
 case main=>
  intro KK dF
  refine ph [0,1,2,3,4,5,6,7,8,9,10,11,12,13,14,15,16,17,19,20,21,22] [4,0,3,2,1] ?_
  apply dB [0,1,2,3,4,5,6,7,8,9,10,11,12,13,14,15,16,17] U U U
  ·intro p hp;refine xS ?_;refine eA (j:=0) U U U U U bw (xS ?_);refine eA (j:=1) U U U U U bw (xS ?_);refine SZ (hf:=Fj.there _ _ _ _ _ _ _ (h:=Fj.there _ _ _ _ _ _ _ (h:=Fj.there _ _ _ _ _ _ _ (h:=Fj.there _ _ _ _ _ _ _ (h:=Fj.here _ _ _ _ _ _))))) U U U cE (xS ?_);exact bh4
  ·rfl
  ·rfl
  refine eN U U U U U ?_ ?_
  ·skip
   refine cP hT ?_
   rintro v C hO
   obtain⟨p,⟨⟨fa,fn,fc⟩,m1,m2,m3⟩,e,rfl,hO⟩:=hO.shape
   dsimp only at hO ⊢
   refine X.dE (ew cH) (xD ?_)
   refine xL [19,20,21,22] ?_
   refine xA ?_
   intro b6
   exact bh7
  ·refine xA ?_;intro b6;refine cP hT ?_;rintro v C hO;obtain⟨p,⟨⟨fa,fn,fc⟩,m1,m2,m3⟩,e,rfl,hO⟩:=hO.shape;dsimp only at hO ⊢;refine X.dE (ew cH) (xD ?_);refine xL [20,21,22] ?_;refine xS ?_;exact bh7
 case fin=>
  rintro⟨⟨b6,p,⟨⟨fa,fn,fc⟩,m1,m2,m3⟩,e,C⟩,hO⟩;dsimp only at hO ⊢;unfold sB at hO;obtain⟨d1,rr⟩:=res;cases rr with
  |error er=>
   obtain⟨mf,q,hv,rfl⟩:=hO;cases hv;have T2:=vR er U;refine xS ?_;refine mO U U U U U  ?_;refine xE (u9 Hf er _ _ (.inr ⟨mf,q,U,U⟩) T2.1 T2.2) ?_;exact xR
  |ok z=>
   obtain⟨S,fa',fn',fc',hv,rfl⟩:=hO;cases hv;obtain⟨HX,hz2,hz3,hz4⟩:=hz z U;refine xS ?_;refine mO U U U U U (xS ?_);refine fG (sG [0,2,4,5,6,7,9,10,11,12,14,15,16,17,19]) [bx b6 89 [.slice fa fn fc,.int .u64 z.2.top.toNat,.int .i64 z.2.cG,.int .i64 z.2.dP]] U ?_;refine xL [0,6,7,11,12,16,17] ?_;refine xS ?_;refine cP (sA S D z.1 HX) ?_;rintro _ _ ⟨ak,ck,rfl,rfl⟩;have hke:(if z.1.closed=aP then[]else z.1.dir.keys)=z.1.keys:=U;rw[hke];refine xD ?_;have l1:=eJ (z.1.keys.length:ae) bw bw;have l2:=vc z.2.top;have l3:=eJ (z.2.cG:ae) bw bw;have l4:=eJ (z.2.dP:ae) bw bw;have hob:s9 (.ok z)=[111,107,32]++ib z.1.keys.length++[32]++bB z.2.top.toNat++[32]++ib z.2.cG++[32]++ib z.2.dP:=U;rw[hob];refine xJ (xG z.1.keys.length bw bw) ?_;generalize ib z.1.keys.length=i1 at*;refine xS ?_;refine xL [4,5] ?_;refine xJ (Bv z.2.top) ?_;generalize bB z.2.top.toNat=i2 at*;refine xS ?_;refine xL [9,10] ?_;refine xJ (xG z.2.cG bw bw) ?_;generalize ib z.2.cG=i3 at*;refine xS ?_;refine xL [14,15] ?_;refine xJ (xG z.2.dP bw bw) ?_;generalize ib z.2.dP=i4 at*;refine xS ?_;exact cT hb (.tmps U) ⟨U,S,U⟩
end
end
end Go.Proofs
namespace Go.Sl
section
variable {P:aT}{b:bc}{O:de}{k:Kt}{N:ab}{vs:Y (ab×aR)}{ds:Y Deferred}{H:Y bG}{R:aZ->Y bG->Prop}{ops:ar aW}{rest:Y aW}
variable {d ty:ab}{pos:aC}{af:ar Edge}{g:ah (ab×ai)}
theorem aS2{t e sz h n c:ab}{a:ah aX}{x:aY}{high:ah aY}[ht:qQ P t e][hz:jH P e sz](hw:bO ops vs ⟨aN d,.slice t x aO high aO,ty,pos,af,g⟩=aN aP)(hn:bM d N=aP)(hx:fI vs x=aN (.slice a n c))
 (hh:Bd vs n high h)(h2:h<=n)(qn:n<=c)
 (hk:X P b O (aN (ops,rest)) k ⟨N,(d,.slice a h c)::vs,ds⟩ H R):X P b O (aN (ops,⟨aN d,.slice t x aO high aO,ty,pos,af,g⟩::rest)) k ⟨N,vs,ds⟩ H R:=
 X.val (v:=.slice a h c) U hn hw (λact w he hs=>by
  have e1:=bU he hx;have e3:=pD (P:=P) (w:=w) he (isS:=aP) (cap:=c) Bd.no hh (bp h) bw;have e4:∀p:aX,Addr.add p 0=p:=λp=>rfl;simp only[Option.map_none]at e3;simp[aU,e1,Instr.sliceAt,Instr.slice,cI ht.out,e3,jR hz.out];intro _;cases a with
  |none=>rfl
  |some p=>rfl) hk
end
end Go.Sl
namespace Go.Proofs
open Go.Sl
set_option maxRecDepth 8000
def qG(l:Y ca)(n:Bs):ah ca:=l.find? (·.name=n)
def vM(l:Y ca)(f:ca):Y ca:=match l.findIdx? (·.name=f.name)with|some i=>l.set i f|none=>l++[f]
def Ix(l:Y ca)(n:Bs):Y ca:=match l.findIdx? (·.name=n)with|some i=>l.eraseIdx i|none=>l
inductive Dm where
 |lay (n t:Bs)|flip (n:Bs) (k x:ab)|cut (n:Bs) (k:ab)|Iy (n:Bs)|copy (n m:Bs)|move (n m:Bs)
abbrev Dm.word:Dm->Bs
 |.lay ..=>[108,97,121]|.flip ..=>[102,108,105,112]|.cut ..=>[99,117,116]|.Iy ..=>[108,111,115,101]|.copy ..=>[99,111,112,121]|.move ..=>[109,111,118,101]
abbrev Dm.texts:Dm->Y Bs
 |.lay n t=>[n,t]|.flip n _ _=>[n]|.cut n _=>[n]|.Iy n=>[n]|.copy n m=>[n,m]|.move n m=>[n,m]
abbrev Dm.iV:Dm->Y ab
 |.flip _ k x=>[k,x]|.cut _ k=>[k]|_=>[]
abbrev Dm.name:Dm->Bs
 |.lay n _=>n|.flip n _ _=>n|.cut n _=>n|.Iy n=>n|.copy n _=>n|.move n _=>n
def lQ(l:Bs)(k x:ab):Bs:=l.set k (l.getD k 0^^^cV x)
def Dm.ref(m:Dm)(o:ah Bs):ae:=match m with
 |.lay ..=>0
 |.flip _ k _=>(match o with|none=>71|some d=>if d.length<=k then 70 else 0)
 |.cut _ k=>(match o with|none=>71|some d=>if d.length<k then 70 else 0)
 |_=>(match o with|none=>71|some _=>0)
def Dm.files(m:Dm)(l:Y ca)(d:Bs):Y ca:=match m with
 |.lay n t=>vM l ⟨n,t⟩
 |.flip n k x=>vM l ⟨n,lQ d k x⟩
 |.cut n k=>vM l ⟨n,d.take k⟩
 |.Iy n=>Ix l n
 |.copy _ m=>vM l ⟨m,d⟩
 |.move n m=>vM (Ix l n) ⟨m,d⟩
def wY(l:Y ca):Y ca:=(sortStr (l.map (·.name))).map λn=>(qG l n).getD ⟨n,[]⟩
def Dm.do(m:Dm)(d:cd):ah cd×ae:=
 if m.ref ((qG d.all m.name).map (·.data))≠0 then(aO,m.ref ((qG d.all m.name).map (·.data)))else mh d.cap (wY (m.files d.all (((qG d.all m.name).map (·.data)).getD [])))
abbrev ca.val(y:WB ca):aR:=.slice y.2.1 y.1.data.length y.2.2
def Mq(q:Y (WB ca)):Y (Bs×aR):=q.map λy=>(y.1.name,ca.val y)
def mn(q:Y (WB ca))(n:Bs):ah (WB ca):=q.find? (·.1.name=n)
def rB(q:Y (WB ca))(y:WB ca):Y (WB ca):=match q.findIdx? (·.1.name=y.1.name)with|some i=>q.set i y|none=>q++[y]
def CS(q:Y (WB ca))(n:Bs):Y (WB ca):=match q.findIdx? (·.1.name=n)with|some i=>q.eraseIdx i|none=>q
theorem am0(q:Y (WB ca))(n:Bs):gM (Mq q) n=(mn q n).map ca.val:=by
 unfold gM Mq mn;rw[List.find?_map];have e:((λx:Bs×aR=>decide (x.1=n))∘λy:WB ca=>(y.1.name,ca.val y))=λx:WB ca=>decide (x.1.name=n):=U;rw[e];cases List.find? (λx:WB ca=>decide (x.1.name=n)) q<;>rfl
theorem Hn(q:Y (WB ca))(y:WB ca):iT (Mq q) y.1.name (ca.val y)=Mq (rB q y):=by
 unfold iT Mq rB
 rw[List.findIdx?_map]
 have e:((λx:Bs×aR=>decide (x.1=y.1.name))∘λy:WB ca=>(y.1.name,ca.val y))=λx:WB ca=>decide (x.1.name=y.1.name):=U
 grind [fL]
theorem am1(q:Y (WB ca))(n:Bs):vB (Mq q) n=Mq (CS q n):=by
 unfold vB Mq CS
 rw[List.findIdx?_map]
 have e:((λx:Bs×aR=>decide (x.1=n))∘λy:WB ca=>(y.1.name,ca.val y))=λx:WB ca=>decide (x.1.name=n):=U
 grind [map_eraseIdx]
theorem OP(q:Y (WB ca))(n:Bs):(mn q n).map (·.1)=qG (q.map (·.1)) n:=by
 unfold mn qG;rw[List.find?_map];rfl
theorem wZ(q:Y (WB ca))(y:WB ca):(rB q y).map (·.1)=vM (q.map (·.1)) y.1:=by
 unfold rB vM
 rw[List.findIdx?_map]
 have e:((λx:ca=>decide (x.name=y.1.name))∘λy:WB ca=>y.1)=λx:WB ca=>decide (x.1.name=y.1.name):=U
 grind [fL]
theorem OQ(q:Y (WB ca))(n:Bs):(CS q n).map (·.1)=Ix (q.map (·.1)) n:=by
 unfold CS Ix
 rw[List.findIdx?_map]
 have e:((λx:ca=>decide (x.name=n))∘λy:WB ca=>y.1)=λx:WB ca=>decide (x.1.name=n):=U
 grind [map_eraseIdx]
theorem pf{q:Y (WB ca)}{y x:WB ca}(h:x∈rB q y):x∈q\/x=y:=by
 grind [rB]
theorem Bz{q:Y (WB ca)}{n:Bs}{x:WB ca}(h:x∈CS q n):x∈q:=by
 grind [CS,List.mem_of_mem_eraseIdx]
theorem w4(q:Y (WB ca))(y:WB ca):(rB q y).length<=q.length+1:=by
 grind [rB]
theorem OR(q:Y (WB ca))(n:Bs):(CS q n).length<=q.length:=by
 grind [CS]
section
variable {a na da:ah aX}{c n nn nc dl dc:ab}
theorem aM3(m:Dm)(o:ah Bs)(ho:∀s,o=aN s->s.length=dl):
 TR be GG 160 #[.agg #[bn m.word,.slice a n c,.slice na m.iV.length nc],.slice da dl dc,.bool o.isSome] [dp RN 1 na m.iV] (dC λu C=>u=.int .i64 (m.ref o)/\C=[]):=by
 refine jy U λb O hb hG=>?_
 cases m with
 |lay nm t=>
  refine xP ?_
  intro b3
  exact xR
 |flip nm k x=>
  refine ly na 0 (by simp) λbl p ha=>?_
  subst ha
  rw[show(Dm.flip nm k x).iV[0]=k from rfl]
  cases o with
  |none=>
   refine xP ?_
   intro b3
   exact xR
  |some s=>
   have hs:=ho s U
   refine xP ?_
   intro b3
   refine eA (j:=0) U U U U U (by simp) (xS ?_)
   by_cases hc:s.length<=k
   ·refine bD 14 aP U (by simp;omega) (xS ?_)
    exact cT hb (.tmps U) ⟨by simp only[Dm.ref];rw[ao hc];rfl,U⟩
   ·refine bD 14 aQ U (by simp;omega) (xS ?_)
    exact cT hb (.tmps U) ⟨by simp only[Dm.ref];rw[aj hc];rfl,U⟩
 |cut nm k=>
  refine ly na 0 (by simp) λbl p ha=>?_
  subst ha
  rw[show(Dm.cut nm k).iV[0]=k from rfl]
  cases o with
  |none=>
   refine xP ?_
   intro b3
   exact xR
  |some s=>
   have hs:=ho s U
   refine xP ?_
   intro b3
   refine eA (j:=0) U U U U U (by simp) (xS ?_)
   by_cases hc:s.length<k
   ·refine bD 14 aP U (by simp;omega) (xS ?_)
    exact cT hb (.tmps U) ⟨by simp only[Dm.ref];rw[ao hc];rfl,U⟩
   ·refine bD 14 aQ U (by simp;omega) (xS ?_)
    exact cT hb (.tmps U) ⟨by simp only[Dm.ref];rw[aj hc];rfl,U⟩
 |Iy nm=>
  cases o with
  |none=>
   refine xP ?_
   intro b3
   exact xR
  |some s=>
   refine xP ?_
   intro b3
   exact xR
 |copy nm t=>
  cases o with
  |none=>
   refine xP ?_
   intro b3
   exact xR
  |some s=>
   refine xP ?_
   intro b3
   exact xR
 |move nm t=>
  cases o with
  |none=>
   refine xP ?_
   intro b3
   exact xR
  |some s=>
   refine xP ?_
   intro b3
   exact xR
end
end Go.Proofs
namespace Go.Proofs
open Go.Sl
set_option maxRecDepth 8000
section
variable{s:cd}{cc:ah (ar aW×Y aW)}{R:aZ->Y bG->Prop}{fs:Y (Bs×cN)}{f:cN}{E:Env}{b:bc}{O:de}{k:Kt}{H F:Y bG}{y:WB ca}{u:ab}{r:ai}(B:ab)(q:Y (WB ca))(a:ah aX)(l:Y (Bs×cN))(n:Bs)
theorem Kv(c:ab){l:Y ca}[hf:FP H (zi a c l) F](h:∀q:Y (WB ca),q.map (·.1)=l->X be b O cc k E (own 70 2 a l.length c (q.flatMap bY)::dZ (q.map kL)::F) R):X be b O cc k E H R:=
 j9 λw hs=>by
  obtain⟨q,h1⟩:=jB (hs.dE hf.out)
  grind [lR]
theorem lS[hf:FP H (dZ (q.map kL)) F](h:X be b O cc k E (eQ ca.data q::F) R):X be b O cc k E H R:=
 j9 λw hs=>⟨_,E8 q F O w ((hs.dE hf.out).dE (iR _ _)),h⟩
theorem am4{q:Y (WB ca)}(h:y.1.name∉q.map (·.1.name)):rB q y=q++[y]:=by
 grind [rB]
theorem Sc{q:Y (WB ca)}(h:(q.map (·.1.name)).Nodup){i:ab}(hi:i<q.length):q[i].1.name∉(q.take i).map (·.1.name):=by
 grind [dV,fN]
theorem JZ{d:cd}(h:d.ok):(d.all.map (·.name)).Nodup:=by
 unfold cd.all cd.told;rw[dK];have e:((λf:ca=>f.name)∘vp d λf=>f.data.length)=id:=by
  grind [vp]
 rw[e,List.map_id];exact(jh _).nodup_iff.2 h.nd
theorem zO(cap:ae)(l:Y ca):(mh cap l=(aO,70)\/mh cap l=(aO,72)\/mh cap l=(aO,73))\/∃s,mh cap l=(aN s,0):=by
 grind [mh]
theorem w5{q:Y (WB ca)}{n:Bs}(h:mn q n=aN y):y∈q/\y.1.name=n/\∃i,∃hi:i<q.length,q.findIdx? (λx:WB ca=>decide (x.1.name=n))=aN i/\q[i]=y:=by
 grind [mn,List.find?_eq_some_iff_getElem,cA]
theorem aR4{q:Y (WB ca)}[hf:BQ H a (cy bY) 2 q][hs:TC H ca.data q](h:X be b O cc k E (dp AP 2 a (q.map (·.1))::H) R):X be b O cc k E H R:=bB6 ca.data bY a h
abbrev wf(q:Y (WB ca))(n:Bs):WB ca:=(mn q n).getD (⟨n,[]⟩,aO,0)
theorem aM4:(wf q n).1.name=n:=by
 unfold wf;cases h:mn q n<;>grind [mn]
theorem bu6:((mn q n).map ca.val).getD (.slice aO 0 0)=ca.val (wf q n):=by
 unfold wf;cases mn q n<;>rfl
theorem bu7{q:Y (WB ca)}{n:Bs}(h:n∈q.map (·.1.name)):wf q n∈q:=by
 unfold wf;cases hw:mn q n<;>grind [mn]
theorem aM5:((sortStr ((q.map (·.1)).map (·.name))).map (wf q)).map (·.1)=wY (q.map (·.1)):=by
 unfold wY;rw[dK];apply cY;intro n _;show(wf q n).1=_;unfold wf;rw[<-OP];cases mn q n<;>rfl
theorem bu8(i:ab)(hi:i<q.length)(z:WB ca)(h1:z.1.name=q[i].1.name)(h2:ca.val z=ca.val q[i]):Mq (q.set i z)=Mq q:=by
 unfold Mq
 rw[fL,h1,h2]
 apply List.ext_getElem dW
 grind
theorem bh8(x:ab)(h:x<=255):dS.wrap (x:ae)=((cV x).toNat:ae):=by
 have h1:(cV x).toNat=x:=fD
 grind [jm,jX,iM]
theorem Ud(data:Bs)(kk xx:ab)(hk:kk<data.length):(data.map gT).take (0+kk*1)++[gf dS ((data[kk]^^^cV xx).toNat:ae)]++(data.map gT).drop (0+kk*1+[gf dS ((data[kk]^^^cV xx).toNat:ae)].length)=(lQ data kk xx).map gT:=by
 unfold lQ;rw[List.set_eq_take_append_cons_drop,ao hk,List.getD_eq_getElem?_getD,bX hk,dz,dx,bN,List.map_take,List.map_drop];simp only[bT,Nat.mul_one,List.length_singleton,cB,List.singleton_append];rfl
section
variable {S D B:ab}{x:gW}{d:cd}{w:Bs}{a na:ah aX}{c n nn nc:ab}{sv:aR}
theorem aM6(m:Dm)(hl:d.files.length<=100000000000)(htx:∀t∈m.texts,t.length<=1000000000)(hnx:∀n k x,m=.flip n k x->x<=255):
 TR be GG 114 #[bu B,.agg #[bn m.word,.slice a m.texts.length c,.slice na m.iV.length nc]] [bx B 53 [bu D,sv],cJ D d,dp RS 1 a m.texts,dp RN 1 na m.iV] (dC λu C=>u=bn (eH (m.do d).2)/\CR B D sv d (m.do d) C):=by
 refine bZ U λb O hb hG=>?_
 refine qV D λeI=>?_
 have ht0:0<m.texts.length:=bQ
 have htn:m.texts[0]'ht0=m.name:=bQ
 refine ly a 0 ht0 λbt ot ha=>?_
 subst ha
 rw[htn]
 refine xP ?_
 intro b3
 refine sP bn U U λbm=>xS ?_
 refine cP (kj GG D d bw) ?_
 rintro _ _ ⟨af,cf,rfl,rfl⟩
 dsimp only[bh,bk,bj]
 have sF:=mH d
 have vP:=λf hf=>(@qg d eI f hf)
 have j7:=JZ eI
 have qL:m.do d=if m.ref ((qG d.all m.name).map (·.data))≠0 then(aO,m.ref ((qG d.all m.name).map (·.data)))else mh d.cap (wY (m.files d.all (((qG d.all m.name).map (·.data)).getD []))):=U
 generalize m.do d=res at*
 refine Kv af cf (l:=d.all) λq hq=>?_
 rw[<-hq]at sF vP j7 qL ⊢
 rw[<-OP]at qL
 have vL:∀y∈q,y.1.name.length<=1000/\y.1.data.length<=4194304:=aH2
 rw[dK]at j7
 rw[bF]at sF ⊢
 refine dR af bY q U U (λ_=>rfl) λuD=>xS ?_
 refine X.loop (ι:={z:ab // z<=q.length}) (λz=>([(0,bu B),(3,bu b3),(5,.map (aN bm)),(22,.slice af q.length cf),(23,bR q.length),(24,bR z.1)],[mp bn bm (Mq (q.take z.1)),dp (cy bY) 2 af q,dZ (q.map kL),bx b3 60 [bn m.word,.slice (aN ⟨bt,ot,aO⟩) m.texts.length c,.slice na m.iV.length nc],bx B 53 [bu D,sv],cJ D d,el RS 1 bt (ot+0*1) m.name,dp RS 1 (aN ⟨bt,ot,aO⟩) m.texts,dp RN 1 na m.iV])) (λz=>q.length - z.1)
  ⟨0,bp _⟩ (Sub.of U) (show bS _ [mp bn bm [],dp (cy bY) 2 af q,dZ (q.map kL),bx b3 60 [bn m.word,.slice (aN ⟨bt,ot,aO⟩) m.texts.length c,.slice na m.iV.length nc],bx B 53 [bu D,sv],cJ D d,el RS 1 bt (ot+0*1) m.name,dp RS 1 (aN ⟨bt,ot,aO⟩) m.texts,dp RN 1 na m.iV]from bA) ?_
 rintro⟨i,hi⟩ ih
 dsimp only at hi ⊢
 refine xB ?_ ?_<;>intro h
 ·have hi:i<q.length:=bQ;have ih:=ih ⟨i+1,by omega⟩ bQ;have ht:rB (q.take i) q[i]=q.take (i+1):=by grind [am4,Sc,dO]
  dsimp only at ih;rw[<-ht]at ih;refine xS ?_;refine dJ U U U U U hi U λbl o=>?_;generalize q[i]=y at*;refine xS ?_;refine eT U U U U  ?_;refine xA ?_;intro b7;refine rM y.1.name dy U U U U ?_;rw[Hn];exact Hm
 ·have hi:i=q.length:=bQ;subst hi;rw[bV];refine xS ?_;refine eA (j:=0) U U U U U ht0 (xS ?_);refine PR m.name U U U U ?_;rw[am0];have hfound:∀s,(mn q m.name).map (λy=>y.1.data)=aN s->s.length=((mn q m.name).map λy=>y.1.data.length).getD 0:=by
   simp_all
  have Sd:∃da dc,((mn q m.name).map ca.val).getD (.slice aO 0 0)=.slice da (((mn q m.name).map λy=>y.1.data.length).getD 0) dc:=by
   cases mn q m.name<;>simp_all
  have his:((mn q m.name).map ca.val).isSome=((mn q m.name).map λy=>y.1.data).isSome:=bQ;rw[his];have am5:res=if m.ref ((mn q m.name).map λy=>y.1.data)≠0 then(aO,m.ref ((mn q m.name).map λy=>y.1.data))else mh d.cap (wY (m.files (q.map (·.1)) (((mn q m.name).map λy=>y.1.data).getD []))):=by
   rw[qL,Option.map_map];rfl
  clear qL;obtain⟨da,dc,Sd⟩:=Sd;have yW:=Sd;rw[Sd];refine xS ?_;refine Kl na ?_;refine xE (aM3 m ((mn q m.name).map λy=>y.1.data) hfound) ?_;refine yB (m.ref ((mn q m.name).map λy=>y.1.data)≠0) (¬m.ref ((mn q m.name).map λy=>y.1.data)≠0) ?_ ?_<;>intro mf
  ·rw[ao mf]at am5;have hre:Iw (m.ref ((mn q m.name).map λy=>y.1.data)):=by
    generalize(mn q m.name).map (λy=>y.1.data)=o;unfold Iw;cases m<;>cases o<;>simp only[Dm.ref]<;>(try split)<;>omega
   generalize m.ref ((mn q m.name).map λy=>y.1.data)=e at*;subst am5;refine xJ (nS e hre.1 hre.2) ?_;exact xR
  ·rw[aj mf]at am5
   have mf:m.ref ((mn q m.name).map λy=>y.1.data)=0:=bw
   refine X.go 3 U U ?_
   refine XQ [0,5] [0,0,0,0,2,2,2] (ι:={q':Y (WB ca) // q'.map (·.1)=m.files (q.map (·.1)) (((mn q m.name).map λy=>y.1.data).getD [])/\q'.length<=q.length+1/\∀y∈q',y.1.data.length<=1000000000}) (λz q_=>q_) (λz q_=>mp bn bm (Mq z.1)::eQ ca.data z.1::q_) ?fin ?main
   case fin=>
    rintro⟨q',hq',KX,EI⟩;dsimp only;rw[<-hq']at am5;refine xS ?_;refine cP (YV GG bm) ?_;rintro _ _ ⟨p,rfl,rfl⟩;refine xD ?_;refine hU [bx p 246 [.map (aN bm)],mp bn bm (Mq q')] ?_;have hml:(Mq q').length=q'.length:=bF _;refine cP (r6 GG 257 [bu p] _ _ _ (YW GG p bm (Mq q')) (λpre ⟨post,hp⟩=>?_) (λys hp=>?_)) ?_
    ·have:=hp.length_eq
     grind
    ·have:=hp.length_eq
     grind
    rintro _ _ ⟨ys,AD,aw,cw,rfl,rfl⟩;have xy:sortStr ys=sortStr ((q'.map (·.1)).map (·.name)):=pI (by
     have e:(q'.map (·.1)).map (·.name)=(Mq q').map (·.1):=by unfold Mq;rw[dK,dK];rfl
     grind)
    have hws:=aM5 q';have Xz:(sortStr ((q'.map (·.1)).map (·.name))).length<=q'.length:=by grind [kf]
    have jv:∀n∈sortStr ((q'.map (·.1)).map (·.name)),wf q' n∈q':=by grind [bu7,jh]
    rw[xy];generalize sortStr ((q'.map (·.1)).map (·.name))=ns at*;dsimp only[bh,bk,bj];refine mc [bx p 246 [.map (aN bm)],mp bn bm (Mq q')] ?_;dsimp only[bh,bk,bj];refine dR aw (λk:Bs=>[bn k]) ns U U (λ_=>rfl) λ_=>xS ?_;refine X.dE (fh 70 2 _) ?_;refine X.loop (ι:={z:ab×ah aX×ab // z.1<=ns.length}) (λz=>([(0,bu B),(5,.map (aN bm)),(12,.slice z.1.2.1 z.1.1 z.1.2.2),(113,.slice aw ns.length cw),(114,bR ns.length),(115,bR z.1.1)],[own 70 2 z.1.2.1 z.1.1 z.1.2.2 (((ns.take z.1.1).map (wf q')).flatMap bY),dp RS 1 aw ns,mp bn bm (Mq q'),eQ ca.data q',bx B 53 [bu D,sv],cJ D d])) (λz=>ns.length - z.1.1)
     ⟨(0,aO,0),bp _⟩ (Sub.of U) (show bS _ [own 70 2 aO 0 0 [],dp RS 1 aw ns,mp bn bm (Mq q'),eQ ca.data q',bx B 53 [bu D,sv],cJ D d]from bA) ?_
    rintro⟨⟨i,a12,c12⟩,hi⟩ ih;dsimp only at hi ⊢;refine yB (i<ns.length) (i=ns.length) ?_ ?_<;>intro hi
    ·have ht:(ns.take (i+1)).map (wf q')=(ns.take i).map (wf q')++[wf q' ns[i]]:=aK8;have hil:i=((ns.take i).map (wf q')).length:=bQ;have ih:=λz=>ih ⟨(i+1,z),by omega⟩ bQ;dsimp only at ih;rw[ht]at ih;refine xS ?_;refine dJ U U U U U hi U λbl o=>?_;generalize ns[i]=nm at*;generalize(ns.take i).map (wf q')=acc at*;refine xS ?_;refine tP nm U U U U ?_;rw[am0,bu6];have hwn:=aM4 q' nm;generalize wf q' nm=y at*;subst hwn;refine xZ ?_;intro b9;refine fH (y) U U U U bw U cE cE cE cE cE bw λa9 c9=>xS ?_;have e9:(acc++[y]).length=i+1:=bQ;rw[e9];exact X.W (ih (a9,c9))
    ·subst hi;rw[bV];refine xS ?_;refine dR a12 bY (ns.map (wf q')) U (by rw[bF]) (λ_=>rfl) λ_=>?_;refine qW (data:=ca.data) q' (ns.map (wf q')) (λx hx=>by
      grind) ?_
     refine aR4 a12 (q:=ns.map (wf q')) ?_;rw[hws];have nC:(wY (q'.map (·.1))).length=ns.length:=bQ;have BR:∀x∈wY (q'.map (·.1)),x.data.length<=1000000000000:=bQ;refine xE (A4 GG D d) ?_;refine cP (x9 GG d.cap a12 ns.length c12 (wY (q'.map (·.1))) nC bw BR) ?_;subst am5;rcases zO d.cap (wY (q'.map (·.1)))with(hn|hn|hn)|⟨s,hn⟩
     ·exact bh5
     ·rw[hn];rintro _ _ ⟨rfl,rfl⟩;refine xD ?_;refine xJ (nS 72 bw bw) ?_;exact xR
     ·rw[hn];rintro _ _ ⟨rfl,rfl⟩;refine xD ?_;refine xJ (nS 73 bw bw) ?_;exact xR
     ·exact bh6
   case main=>
    intro KK dF;cases m with
    |lay nm t=>
     simp only[Dm.name,Dm.texts,Dm.iV,Dm.files]at dF ⊢;refine lS q (xS ?_);refine ly (aN ⟨bt,ot,aO⟩) 1 dW λbt' ot' ha=>?_;cases ha;rw[show[nm,t][1]=t from rfl];refine eA (j:=1) U U U U U dW (xS ?_);refine Kn U U U λat_ ct hct=>xS ?_;refine rM nm dy U U U U ?_;have Ue:=Hn q ((⟨nm,t⟩,aN at_,ct):WB ca);dsimp only at Ue;rw[show(Value.slice (aN at_) (eP t) ct)=ca.val ((⟨nm,t⟩,aN at_,ct):WB ca)from rfl,Ue];refine SY (data:=ca.data) q ((⟨nm,t⟩,aN at_,ct):WB ca) hct (λh=>by cases h) ?_;refine qW (data:=ca.data) (((⟨nm,t⟩,aN at_,ct):WB ca)::q) (rB q ((⟨nm,t⟩,aN at_,ct):WB ca)) (λx hx=>(pf hx).elim (λh=>by simp[h]) (λh=>by simp[h])) (xS ?_);exact X.W (dF ⟨rB q ((⟨nm,t⟩,aN at_,ct):WB ca),by rw[wZ],w4 _ _,λx hx=>(pf hx).elim (λh=>bo (vL x h).2 bw) (λh=>by grind)⟩)
    |flip nm kk xx=>
     have BA:∃y,mn q nm=aN y:=OS;obtain⟨y,hy⟩:=BA;obtain⟨Ow,hyn,iy,hiy,hif,hyi⟩:=w5 hy;have Ci:=(vL y Ow).2;simp only[Dm.name,Dm.texts,Dm.iV,Dm.ref,Dm.files,hy,cO,dz]at mf yW dF ⊢;cases yW;have hk:kk<y.1.data.length:=by
      omega
     refine ly na 0 dW λbl o ha=>?_;subst ha;refine ly (aN ⟨bl,o,aO⟩) 1 dW λbl' o' ha=>?_;cases ha;rw[show[kk,xx][0]=kk from rfl,show[kk,xx][1]=xx from rfl];refine xS ?_;refine X6 kL q iy hiy ?_;rw[hyi,show kL y=own 5 1 y.2.1 y.1.data.length y.2.2 (y.1.data.map gT)from rfl];refine gZ y.2.1 bw λg hg=>?_;have hyv:y.2.1=aN ⟨g,0,aO⟩:=hg;rw[hyv];refine fU 14 [6,0,3,2] ?_;apply dB [0,1,2,3,4,5,6,7,8,9,10,11,12,13] U U U
     ·intro p hp;refine xS ?_;refine eA (j:=0) U U U U U dW (xS ?_);refine eA (j:=kk) U U U U U hk (xS ?_);refine X.jK (v:=gT y.1.data[kk]) U U U (by simp[hk]) (xS ?_);refine eA (j:=1) U U U U U dW (xS ?_);refine SZ (hf:=Fj.there _ _ _ _ _ _ _ (h:=Fj.there _ _ _ _ _ _ _ (h:=Fj.there _ _ _ _ _ _ _ (h:=Fj.here _ _ _ _ _ _)))) U U U cE (xS ?_);refine eA (j:=kk) U U U U U hk (xS ?_);exact hp
     ·rfl
     ·rfl
     refine xS ?_;have am6:=hnx nm kk xx U;rw[bh8 xx am6,YL];refine Mn U U U U U U fD ?_;have hxa:=Ud y.1.data kk xx hk;rw[hxa];have hxl:(lQ y.1.data kk xx).length=y.1.data.length:=by grind [lQ]
     have hda:own 5 1 (aN ⟨g,0,aO⟩) y.1.data.length y.2.2 ((lQ y.1.data kk xx).map gT)=kL ((⟨nm,lQ y.1.data kk xx⟩,y.2):WB ca):=by grind [kL]
     rw[hda];refine UH kL q iy hiy ((⟨nm,lQ y.1.data kk xx⟩,y.2):WB ca) ?_;have hws:q.set iy ((⟨nm,lQ y.1.data kk xx⟩,y.2):WB ca)=rB q ((⟨nm,lQ y.1.data kk xx⟩,y.2):WB ca):=by grind [rB]
     have Ue:Mq q=Mq (rB q ((⟨nm,lQ y.1.data kk xx⟩,y.2):WB ca)):=by
      grind [bu8]
     rw[hws,Ue];refine lS (rB q ((⟨nm,lQ y.1.data kk xx⟩,y.2):WB ca)) (xS ?_);exact X.W (dF ⟨rB q ((⟨nm,lQ y.1.data kk xx⟩,y.2):WB ca),by grind [wZ],w4 _ _,λx hx=>(pf hx).elim (λh=>bo (vL x h).2 bw) (λh=>by grind)⟩)
    |cut nm kk=>
     have BA:∃y,mn q nm=aN y:=OS;obtain⟨y,hy⟩:=BA;obtain⟨Ow,hyn,iy,hiy,hif,hyi⟩:=w5 hy;have Ci:=(vL y Ow).2;simp only[Dm.name,Dm.texts,Dm.iV,Dm.ref,Dm.files,hy,cO,dz]at mf yW dF ⊢;cases yW;have hk:kk<=y.1.data.length:=by
      omega
     refine ly na 0 dW λbl o ha=>?_;subst ha;rw[show[kk][0]=kk from rfl];refine lS q ?_;refine nH (data:=ca.data) q y Ow λjT mX=>xS ?_;refine eA (j:=0) U U U U U dW (xS ?_);refine aS2 (h:=kk) U U U (Bd.at U U) hk jT (xS ?_);have PF:(y.1.data.take kk).length=kk:=bQ;refine rM nm dy U U U U ?_;have Ue:=Hn q ((⟨nm,y.1.data.take kk⟩,y.2):WB ca);dsimp only at Ue;rw[show ca.val ((⟨nm,y.1.data.take kk⟩,y.2):WB ca)=Value.slice y.2.1 kk y.2.2 from by grind]at Ue;rw[Ue];refine Db ca.data q (rB q ((⟨nm,y.1.data.take kk⟩,y.2):WB ca)) (λx hx=>(pf hx).elim (λh=>⟨x,h,x.1.data.length,U,bV.symm⟩) (λh=>by grind)) (xS ?_);exact X.W (dF ⟨rB q ((⟨nm,y.1.data.take kk⟩,y.2):WB ca),by grind [wZ],w4 _ _,λx hx=>(pf hx).elim (λh=>bo (vL x h).2 bw) (λh=>by grind)⟩)
    |Iy nm=>
     have BA:∃y,mn q nm=aN y:=OS;obtain⟨y,hy⟩:=BA;obtain⟨Ow,hyn,iy,hiy,hif,hyi⟩:=w5 hy;have Ci:=(vL y Ow).2;simp only[Dm.name,Dm.texts,Dm.iV,Dm.ref,Dm.files,hy,cO,dz]at mf yW dF ⊢;cases yW;refine lS q (xS ?_);refine EY nm dy U U U ?_;rw[am1];refine qW (data:=ca.data) q (CS q nm) (λx hx=>Bz hx) (xS ?_);exact X.W (dF ⟨CS q nm,by rw[OQ],bo (OR _ _) bw,λx hx=>bo (vL x (Bz hx)).2 bw⟩)
    |copy nm t=>
     have BA:∃y,mn q nm=aN y:=OS;obtain⟨y,hy⟩:=BA;obtain⟨Ow,hyn,iy,hiy,hif,hyi⟩:=w5 hy;have Ci:=(vL y Ow).2;simp only[Dm.name,Dm.texts,Dm.iV,Dm.ref,Dm.files,hy,cO,dz]at mf yW dF ⊢;cases yW;refine lS q (xS ?_);refine ly (aN ⟨bt,ot,aO⟩) 1 dW λbt' ot' ha=>?_;cases ha;rw[show[nm,t][1]=t from rfl];refine eA (j:=1) U U U U U dW (xS ?_);refine nH (data:=ca.data) q y Ow λjT mX=>?_;refine rM t dy U U U U ?_;have Ue:=Hn q ((⟨t,y.1.data⟩,y.2):WB ca);dsimp only at Ue;rw[Ue];refine SY (data:=ca.data) q ((⟨t,y.1.data⟩,y.2):WB ca) jT mX ?_;refine qW (data:=ca.data) (((⟨t,y.1.data⟩,y.2):WB ca)::q) (rB q ((⟨t,y.1.data⟩,y.2):WB ca)) (λx hx=>(pf hx).elim (λh=>by simp[h]) (λh=>by simp[h])) (xS ?_);exact X.W (dF ⟨rB q ((⟨t,y.1.data⟩,y.2):WB ca),by grind [wZ],w4 _ _,λx hx=>(pf hx).elim (λh=>bo (vL x h).2 bw) (λh=>by grind)⟩)
    |move nm t=>
     have BA:∃y,mn q nm=aN y:=OS;obtain⟨y,hy⟩:=BA;obtain⟨Ow,hyn,iy,hiy,hif,hyi⟩:=w5 hy;have Ci:=(vL y Ow).2;simp only[Dm.name,Dm.texts,Dm.iV,Dm.ref,Dm.files,hy,cO,dz]at mf yW dF ⊢;cases yW;refine lS q (xS ?_);refine EY nm dy U U U ?_;rw[am1];refine xS ?_;refine ly (aN ⟨bt,ot,aO⟩) 1 dW λbt' ot' ha=>?_;cases ha;rw[show[nm,t][1]=t from rfl];refine eA (j:=1) U U U U U dW (xS ?_);refine nH (data:=ca.data) q y Ow λjT mX=>?_;refine rM t dy U U U U ?_;have Ue:=Hn (CS q nm) ((⟨t,y.1.data⟩,y.2):WB ca);dsimp only at Ue;rw[Ue];refine SY (data:=ca.data) q ((⟨t,y.1.data⟩,y.2):WB ca) jT mX ?_;refine qW (data:=ca.data) (((⟨t,y.1.data⟩,y.2):WB ca)::q) (rB (CS q nm) ((⟨t,y.1.data⟩,y.2):WB ca)) (λx hx=>(pf hx).elim (λh=>by simp[Bz h]) (λh=>by simp[h])) (xS ?_);exact X.W (dF ⟨rB (CS q nm) ((⟨t,y.1.data⟩,y.2):WB ca),by grind [wZ,OQ],by grind [w4,OR],λx hx=>(pf hx).elim (λh=>bo (vL x (Bz h)).2 bw) (λh=>by grind)⟩)
end
instance:TFu be 118:=⟨_,_,_,Tryz.underlying118⟩
structure l9 where
 ej:cd
 vN:ah gW
def Iz(B:ab)(x:l9)(p:ab×ab):Y bG:=match x.vN with
 |none=>[bx B 53 [bu p.1,.pointer aO],cJ p.1 x.ej]
 |some s=>[bx B 53 [bu p.1,bu p.2],cJ p.1 x.ej,eL (p.2,p.1,0) s]
def CT(B:ab)(x:l9):bG:=ex (Iz B x)
inductive jY where
 |Ei (k:ab)|l8 (t:Bs) (k1 k2:ab)|put (k v:Bs)|del (ks:Y Bs)|get (k:Bs)|sync|merge|close|keys|all|last
 |fail (k:ab)|brk (k:ab) (t:Bs)|jU (k:ab)|dm (m:Dm)|files|read (t:Bs)|used
abbrev jY.word:jY->Bs
 |.Ei _=>[100,105,115,107]|.l8 ..=>[111,112,101,110]|.put ..=>[112,117,116]|.del _=>[100,101,108]|.get _=>[103,101,116]|.sync=>[115,121,110,99]|.merge=>[109,101,114,103,101]|.close=>[99,108,111,115,101]|.keys=>[107,101,121,115]|.all=>[97,108,108]|.last=>[108,97,115,116]
 |.fail _=>[102,97,105,108]|.brk ..=>[98,114,101,97,107]|.jU _=>[99,114,97,115,104]|.dm m=>m.word|.files=>[102,105,108,101,115]|.read _=>[114,101,97,100]|.used=>[117,115,101,100]
abbrev jY.texts:jY->Y Bs
 |.l8 t _ _=>[t]|.put k v=>[k,v]|.del ks=>ks|.get k=>[k]|.brk _ t=>[t]|.dm m=>m.texts|.read t=>[t]|_=>[]
abbrev jY.iV:jY->Y ab
 |.Ei k=>[k]|.l8 _ k1 k2=>[k1,k2]|.fail k=>[k]|.brk k _=>[k]|.jU k=>[k]|.dm m=>m.iV|_=>[]
abbrev jY.cmd(a:jY):H5:=⟨a.word,a.texts,a.iV⟩
abbrev jY.f1:jY->ah ab
 |.Ei _=>aN 97|.l8 ..=>aN 98|.fail _=>aN 110|.brk ..=>aN 112|.jU _=>aN 113|.dm _=>aN 114|.files=>aN 115|.read _=>aN 116|.used=>aN 117|_=>aO
abbrev jY.f2:jY->ah ab
 |.put ..=>aN 99|.del _=>aN 101|.get _=>aN 102|.sync=>aN 103|.merge=>aN 104|.close=>aN 105|.keys=>aN 106|.all=>aN 107|.last=>aN 108|_=>aO
theorem jY.sh(a:jY):∃s,By a.word=aN s/\s.f1=a.f1/\s.f2=a.f2:=by
 cases a with
 |dm m=>cases m<;>exact⟨_,U,U,U⟩
 |_=>exact⟨_,U,U,U⟩
abbrev w6:Bs:=[110,111,110,101]
def l9.pT(x:l9)(f:gW->(gW×cd)×Bs):l9×Bs:=match x.vN with
 |none=>(x,w6)
 |some s=>(⟨(f s).1.2,aN (f s).1.1⟩,(f s).2)
def l9.new(x:l9)(p:ah cd×ae):l9×Bs:=(match p with|(aN d,0)=>⟨d,aO⟩|_=>x,eH p.2)
def l9.do(x:l9):jY->l9×Bs
 |.Ei k=>x.new (mh k [])
 |.l8 t k1 k2=>(⟨(gX x.ej k1 k2 (t==kM)).1,match(gX x.ej k1 k2 (t==kM)).2 with|.ok z=>aN z.1|.error _=>aO⟩,s9 (gX x.ej k1 k2 (t==kM)).2)
 |.put k v=>x.pT λs=>((s.put x.ej k v).1,eH (s.put x.ej k v).2)
 |.del ks=>x.pT λs=>((s.delete x.ej ks).1,eH (s.delete x.ej ks).2)
 |.get k=>x.pT λs=>((s,(s.get x.ej k).1),WR (s.get x.ej k).2)
 |.sync=>x.pT λs=>((s.sync x.ej).1,eH (s.sync x.ej).2)
 |.merge=>x.pT λs=>((s.merge x.ej).1,eH (s.merge x.ej).2)
 |.close=>x.pT λs=>((s.close x.ej).1,eH (s.close x.ej).2)
 |.keys=>x.pT λs=>((s,x.ej),py s.keys)
 |.all=>x.pT λs=>((s,(s.all x.ej).2),vd (s.all x.ej).1)
 |.last=>x.pT λs=>((s,x.ej),[108,97,115,116,32]++bB s.last.toNat)
 |.fail k=>(⟨(x.ej.fail k).1,x.vN⟩,eH (x.ej.fail k).2)
 |.brk k t=>(⟨(x.ej.break k (t==ve)).1,x.vN⟩,eH (x.ej.break k (t==ve)).2)
 |.jU k=>(⟨x.ej.jU k,aO⟩,[111,107])
 |.dm m=>x.new (m.do x.ej)
 |.files=>(x,lu x.ej.all)
 |.read t=>(x,uo t x.ej.all)
 |.used=>(x,[117,115,101,100,32]++ib x.ej.used)
def l9.pre(x:l9)(a:jY):Prop:=(∀n∈a.iV,n<=1000000000)/\x.ej.files.length<=50000000000/\match a with
 |.l8 t k1 k2=>(∀m,gV x.ej.all x.ej.cap []=.ok m->(x.ej.nO m.steps).1.files.length<=100000000000)/\(mC x.ej (t==kM)).1.files.length<=100000000000/\
  (∀z,(gX x.ej k1 k2 (t==kM)).2=.ok z->eZ z.1.dir<=1000000000/\z.1.keys.length<=1000000000/\z.2.cG<=1000000000000000000/\z.2.dP<=1000000000000000000)/\(∀e,(gX x.ej k1 k2 (t==kM)).2=.error e->Iw e)
 |.put k v=>∀s,x.vN=aN s->s.wr.lZ/\eZ s.dir+1<=1000000000/\Iw (s.put x.ej k v).2
 |.del ks=>ks.length<=100000/\∀s,x.vN=aN s->∃N,s.ok N/\N+ks.length<=900000000/\Iw (s.delete x.ej ks).2
 |.get k=>∀s,x.vN=aN s->eZ s.dir<=1000000000/\OH (s.dir.get k).1.place/\Iw (s.get x.ej k).2.2.2/\(s.get x.ej k).2.1.length<=100000000
 |.sync=>∀s,x.vN=aN s->Iw (s.sync x.ej).2
 |.merge=>∀s,x.vN=aN s->s.R5/\(WD.close (s.wr,x.ej)).1.2.files.length<=50000000000/\(mJ (WD.close (s.wr,x.ej)).1.2 s.ed).1.files.length<=100000000000/\Iw (s.merge x.ej).2
 |.close=>∀s,x.vN=aN s->Iw (s.close x.ej).2
 |.keys=>∀s,x.vN=aN s->eZ s.dir<=1000000000/\s.keys.length<=1000000000/\∀k∈s.keys,k.length<=100000000
 |.all=>∀s,x.vN=aN s->eZ s.dir<=1000000000/\(∀k,OH (s.dir.get k).1.place)/\s.keys.length<=1000000000/\(s.all x.ej).1.length<=1000000000/\∀y∈(s.all x.ej).1,y.1.length<=100000000/\y.2.length<=100000000
 |.dm m=>(∀t∈m.texts,t.length<=1000000000)/\(∀n k x,m=.flip n k x->x<=255)
 |.used=>x.ej.used<=4194304
 |_=>True
abbrev WY(a:jY)(p:(ah aX×ab)×(ah aX×ab)):aR:=.agg #[bn a.word,.slice p.1.1 a.texts.length p.1.2,.slice p.2.1 a.iV.length p.2.2]
section
variable {x:l9}{n B:ab}{args:ar aR}{F:Y bG}{ans:Bs}{d':cd}
theorem oL(B:ab)(x:l9)(p:ab×ab):bS (Iz B x p) [CT B x]:=by
 have h:=iY (f:=Iz B x) p [];rw[bj]at h;exact h
theorem w7(hT:∀D sv,TR be GG n args (bx B 53 [bu D,sv]::cJ D x.ej::F) (dC λu C=>u=bn ans/\C=[bx B 53 [bu D,sv],cJ D d'])):
 TR be GG n args (CT B x::F) (dC λu C=>u=bn ans/\C=[CT B ⟨d',x.vN⟩]):=by
 refine Ko λp=>?_
 obtain⟨d,s⟩:=x
 cases s with
 |none=>
  refine kF (hT p.1 (.pointer aO)) ?_;rintro v C ⟨h1,rfl⟩;exact⟨_,⟨h1,U⟩,oL B ⟨d',aO⟩ p⟩
 |some s=>
  refine kF (TR.eY (BX (hT p.1 (bu p.2)) [eL (p.2,p.1,0) s]) (ew ?_) λe C hC=>⟨C,hC,bS.refl _⟩) ?_
  ·show List.Perm ([bx B 53 [bu p.1,bu p.2],cJ p.1 d]++([eL (p.2,p.1,0) s]++F)) (([bx B 53 [bu p.1,bu p.2],cJ p.1 d]++F)++[eL (p.2,p.1,0) s])
   grind [List.Perm.append_left,cH]
  ·rintro v C ⟨C',⟨h1,rfl⟩,rfl⟩;exact⟨_,⟨h1,U⟩,oL B ⟨d',aN s⟩ p⟩
theorem EO{Q:ab->aR->Y bG->Prop}{y:l9}(hT:∀D sv,TR be GG n args (bx B 53 [bu D,sv]::cJ D x.ej::F) (dC λu C=>u=bn ans/\Q D sv C))(hq:∀D sv C,Q D sv C->(∃p,bS C (Iz B y p))\/(y=x/\C=[bx B 53 [bu D,sv],cJ D x.ej])):
 TR be GG n args (CT B x::F) (dC λu C=>u=bn ans/\C=[CT B y]):=by
 refine Ko λp=>?_
 obtain⟨d,s⟩:=x
 cases s with
 |none=>
  refine kF (hT p.1 (.pointer aO)) ?_;rintro v C ⟨h1,h2⟩;rcases hq _ _ _ h2 with⟨p',hp⟩|⟨rfl,rfl⟩
  ·exact⟨_,⟨h1,U⟩,hp.trans (oL B y p')⟩
  ·exact⟨_,⟨h1,U⟩,oL B ⟨d,aO⟩ p⟩
 |some s=>
  refine kF (TR.eY (BX (hT p.1 (bu p.2)) [eL (p.2,p.1,0) s]) (ew ?_) λe C hC=>⟨C,hC,bS.refl _⟩) ?_
  ·show List.Perm ([bx B 53 [bu p.1,bu p.2],cJ p.1 d]++([eL (p.2,p.1,0) s]++F)) (([bx B 53 [bu p.1,bu p.2],cJ p.1 d]++F)++[eL (p.2,p.1,0) s])
   grind [List.Perm.append_left,cH]
  ·rintro v C ⟨C',⟨h1,h2⟩,rfl⟩;rcases hq _ _ _ h2 with⟨p',hp⟩|⟨rfl,rfl⟩
   ·exact⟨_,⟨h1,U⟩,(ia _ _).trans (hp.trans (oL B y p'))⟩
   ·exact⟨_,⟨h1,U⟩,oL B ⟨d,aN s⟩ p⟩
end
theorem Uf{B D:ab}{sv:aR}{x:l9}{p:ah cd×ae}{C:Y bG}(h:CR B D sv x.ej p C):(∃q,bS C (Iz B (x.new p).1 q))\/((x.new p).1=x/\C=[bx B 53 [bu D,sv],cJ D x.ej]):=by
 unfold CR at h
 unfold l9.new
 split at h
 ·obtain⟨D1,rfl⟩:=h;exact .inl ⟨(D1,0),bS.refl _⟩
 grind
theorem iC{x:l9}{s:gW}(hx:x.vN=aN s)(f:gW->(gW×cd)×Bs):x.pT f=(⟨(f s).1.2,aN (f s).1.1⟩,(f s).2):=by
 grind [l9.pT]
inductive DoK(B:ab)(x:l9)(a:jY)(p:(ah aX×ab)×(ah aX×ab))(y:l9×Bs):ah ab->ah ab->Prop where
 |IA (n:ab) (f2:ah ab) (uD:CF be n) (hT:TR be GG n #[bu B,WY a p] [CT B x,dp RS 1 p.1.1 a.texts,dp RN 1 p.2.1 a.iV] (dC λu C=>u=bn y.2/\C=[CT B y.1])):DoK B x a p y (aN n) f2
 |asks (n:ab) (s s':gW) (uD:CF be n) (hx:x.vN=aN s) (hy:y.1.vN=aN s') (hT:∀S D,TR be GG n #[bu S,WY a p] [eL (S,D,0) s,cJ D x.ej,dp RS 1 p.1.1 a.texts,dp RN 1 p.2.1 a.iV] (dC λu C=>u=bn y.2/\C=[eL (S,D,0) s',cJ D y.1.ej])):DoK B x a p y aO (aN n)
 |none (f2:ah ab) (hx:x.vN=aO) (hy:y=(x,w6)):DoK B x a p y aO f2
theorem Ya(x:l9)[hf:FP H (CT B x) F](h:∀p,X be b O cc k E (Iz B x p++F) R):X be b O cc k E H R:=
 j9 λw hs=>by
  obtain⟨p,h1⟩:=jB (hs.dE hf.out)
  grind
theorem ShR.one(n:ab)(f1 f2:ah ab):nY [.slice a n n,fv f1,fv f2]=aP:=by cases f1<;>cases f2<;>rfl
theorem bu9(x:l9)(a:jY)(p:(ah aX×ab)×(ah aX×ab))(y:l9×Bs)(hk:DoK B x a p y a.f1 a.f2):
 TR be GG 19 #[bu B,WY a p] [CT B x,dp RS 1 p.1.1 a.texts,dp RN 1 p.2.1 a.iV] (dC λu C=>u=bn y.2/\C=[CT B y.1]):=by
 refine bZ U λb O hb hG=>?_
 obtain⟨sh,Nq,h1,h2⟩:=a.sh
 rw[<-h1,<-h2]at hk
 refine xP ?_
 intro b3
 refine tq [0,3] [] (ι:=ab×ah aX×ab) (λz q_=>(5,bu z.1)::q_) (λz q_=>bx z.1 121 [.slice z.2.1 z.2.2 z.2.2,fv sh.f1,fv sh.f2]::q_) ?fin ?main
 case main=>
  intro KK dF
  refine ph [1,2] [0] ?_
  refine xL [1,2] ?_
  refine eN U U U U U ?_ ?_
  ·skip
   refine cP (va GG a.word) ?_
   rintro _ _ ⟨m,M,cs,XX,rfl,hM1,hM2,hR,rfl⟩
   rw[Nq]at hR
   obtain⟨aq,rfl,rfl⟩:=hR
   dsimp only[bh,bk,bj]
   refine X.uv ?_
   refine eN U U U U U ?_ ?_
   ·skip
    refine sQ a.word dy U U U U (zv:=.agg #[.slice aO 0 0,.nilFunc,.nilFunc]) (λw _=>Tryz.zeroValue121 w) ?_
    rw[hM1]
    refine xA ?_
    intro b5
    refine X.st U U U U U (ShR.one _ _ _ _) cE (xS ?_)
    exact X.W (dF (b5,aq,sh.iU.length))
   ·skip
    refine xA ?_
    intro b5
    exact bh9
  ·skip
   refine xA ?_
   intro b5
   refine cP (va GG a.word) ?_
   rintro _ _ ⟨m,M,cs,XX,rfl,hM1,hM2,hR,rfl⟩
   rw[Nq]at hR
   obtain⟨aq,rfl,rfl⟩:=hR
   refine xD ?_
   exact bh9
 case fin=>
  rintro⟨b5,aq,nq⟩;dsimp only;generalize hg1:sh.f1=g1 at*;generalize hg2:sh.f2=g2 at*;clear Nq;cases hk with
  |IA n _ uD hT=>
   refine xS ?_;refine PW U U U U (xS ?_);refine jd (us:=[bu B,WY a p]) (fst:=[]) (cap:=[]) hG hT U U U U bS.es ?_;rintro _ _ ⟨rfl,rfl⟩;refine xD ?_;exact xR
  |asks n s s' uD hx hy hT=>
   refine Ya B x λq=>?_;unfold Iz;rw[hx];refine xD ?_;refine PW U U U U (xS ?_);refine fU 7 [3,0,4] ?_;refine xL [0,1,2,3,4,5,6] ?_;refine xS ?_;refine jd (us:=[bu q.2,WY a p]) (fst:=[]) (cap:=[]) hG (hT q.2 q.1) U U U U bS.es ?_;rintro _ _ ⟨rfl,rfl⟩;refine xD ?_;refine X.ret hb (.tmps U) ⟨_,⟨U,U⟩,bS.trans ?_ (oL B y.1 q)⟩;unfold Iz;rw[hy];exact bA
  |none _ hx hy=>
   subst hy;refine Ya B x λq=>?_;unfold Iz;rw[hx];refine xD ?_;refine PW U U U U (xS ?_);refine X.ret hb (.tmps U) ⟨_,⟨U,U⟩,bS.trans ?_ (oL B x q)⟩;unfold Iz;rw[hx];exact bA
theorem aM8(x:l9)(a:jY)(p:(ah aX×ab)×(ah aX×ab))(hp:x.pre a):DoK B x a p (x.do a) a.f1 a.f2:=by
 obtain⟨hn,hl,hp⟩:=hp;obtain⟨⟨pa,pc⟩,⟨na,nc⟩⟩:=p;have qx:x.ej.files.length<=100000000000:=bw;have XI:x.ej.files.length<=90000000000:=bw;cases a with
 |put k v=>
  cases hx:x.vN with
  |none=>exact .none _ hx LC
  |some s=>
   rw[show x.do (.put k v)=_ from iC hx _];obtain⟨h1,h2,h3⟩:=hp s hx;exact .asks 99 s _ ax hx U λS D=>(TR.eY (aL9 k v qx h1 h2 h3) bA λe C hC=>⟨C,hC,bS.refl _⟩)
 |del ks=>
  cases hx:x.vN with
  |none=>exact .none _ hx LC
  |some s=>
   rw[show x.do (.del ks)=_ from iC hx _];obtain⟨N,h1,h2,h3⟩:=hp.2 s hx;exact .asks 101 s _ ax hx U λS D=>(TR.eY (aM0 ks hp.1 N h1 h2 XI h3) bA λe C hC=>⟨C,hC,bS.refl _⟩)
 |get k=>
  cases hx:x.vN with
  |none=>exact .none _ hx LC
  |some s=>
   rw[show x.do (.get k)=_ from iC hx _];obtain⟨h1,h2,h3,h4⟩:=hp s hx;exact .asks 102 s _ ax hx U λS D=>(TR.eY (aM1 k h1 h2 h3 h4) bA λe C hC=>⟨C,hC,bS.refl _⟩)
 |sync=>
  cases hx:x.vN with
  |none=>exact .none _ hx LC
  |some s=>
   rw[show x.do (.sync)=_ from iC hx _];exact .asks 103 s _ ax hx U λS D=>(TR.eY (al3 (hp s hx)) bA λe C hC=>⟨C,hC,bS.refl _⟩)
 |merge=>
  cases hx:x.vN with
  |none=>exact .none _ hx LC
  |some s=>
   rw[show x.do (.merge)=_ from iC hx _];obtain⟨h1,h2,h3,h4⟩:=hp s hx;exact .asks 104 s _ ax hx U λS D=>(TR.eY (WS h1 hl h2 h3 h4) bA λe C hC=>⟨C,hC,bS.refl _⟩)
 |close=>
  cases hx:x.vN with
  |none=>exact .none _ hx LC
  |some s=>
   rw[show x.do (.close)=_ from iC hx _];exact .asks 105 s _ ax hx U λS D=>(TR.eY (WT (hp s hx)) bA λe C hC=>⟨C,hC,bS.refl _⟩)
 |keys=>
  cases hx:x.vN with
  |none=>exact .none _ hx LC
  |some s=>
   rw[show x.do (.keys)=_ from iC hx _];obtain⟨h1,h2,h3⟩:=hp s hx;exact .asks 106 s _ ax hx U λS D=>(TR.eY (al5 h1 h2 h3) bA λe C hC=>⟨C,hC,bS.refl _⟩)
 |all=>
  cases hx:x.vN with
  |none=>exact .none _ hx LC
  |some s=>
   rw[show x.do (.all)=_ from iC hx _];obtain⟨h1,h2,h3,h4,h5⟩:=hp s hx;exact .asks 107 s _ ax hx U λS D=>(TR.eY (aM2 h1 h2 h3 h4 h5) bA λe C hC=>⟨C,hC,bS.refl _⟩)
 |last=>
  cases hx:x.vN with
  |none=>exact .none _ hx LC
  |some s=>
   rw[show x.do (.last)=_ from iC hx _];exact .asks 108 s _ ax hx U λS D=>(TR.eY (al4) bA λe C hC=>⟨C,hC,bS.refl _⟩)
 |fail k=>
  exact .IA 110 _ ax (w7 λD sv=>(TR.eY (al6 (D:=D) (sv:=sv) (d:=x.ej) k (hn k dW)) bA λe C hC=>⟨C,hC,bS.refl _⟩))
 |brk k t=>
  exact .IA 112 _ ax (w7 λD sv=>(TR.eY (WU (D:=D) (sv:=sv) (d:=x.ej) k (hn k dW) t) bA λe C hC=>⟨C,hC,bS.refl _⟩))
 |used=>
  exact .IA 117 _ ax (w7 λD sv=>(TR.eY (al7 (D:=D) (sv:=sv) (d:=x.ej) hp) bA λe C hC=>⟨C,hC,bS.refl _⟩))
 |files=>
  exact .IA 115 _ ax (w7 λD sv=>(TR.eY (WW (D:=D) (sv:=sv) (d:=x.ej) qx) bA λe C hC=>⟨C,hC,bS.refl _⟩))
 |read t=>
  exact .IA 116 _ ax (w7 λD sv=>(TR.eY (WX (D:=D) (sv:=sv) (d:=x.ej) t qx) bA λe C hC=>⟨C,hC,bS.refl _⟩))
 |jU k=>
  exact .IA 113 _ ax (EO (Q:=λD sv C=>C=[bx B 53 [bu D,.pointer aO],cJ D (x.ej.jU k)]) (λD sv=>(TR.eY (WV (D:=D) (sv:=sv) (d:=x.ej) k) bA λe C hC=>⟨C,hC,bS.refl _⟩)) λD sv C hC=>.inl ⟨(D,0),kg hC⟩)
 |Ei k=>
  exact .IA 97 _ ax (EO (Q:=λD sv C=>CR B D sv x.ej (mh k []) C) (λD sv=>(TR.eY (al8 (D:=D) (sv:=sv) (d:=x.ej) k (hn k dW)) bA λe C hC=>⟨C,hC,bS.refl _⟩)) λD sv C hC=>Uf hC)
 |dm m=>
  exact .IA 114 _ ax (EO (Q:=λD sv C=>CR B D sv x.ej (m.do x.ej) C) (λD sv=>(TR.eY (aM6 (D:=D) (sv:=sv) (d:=x.ej) m qx hp.1 hp.2) bA λe C hC=>⟨C,hC,bS.refl _⟩)) λD sv C hC=>Uf hC)
 |l8 t k1 k2=>
  obtain⟨h1,h2,h3,h4⟩:=hp;exact .IA 98 _ ax (EO (Q:=λD sv C=>Sa B D (gX x.ej k1 k2 (t==kM)) C) (λD sv=>(TR.eY (al9 (D:=D) (sv:=sv) (d:=x.ej) t k1 k2 (hn k1 dW) (hn k2 dW) hl h1 h2 h3 h4) bA λe C hC=>⟨C,hC,bS.refl _⟩)) λD sv C hC=>by
   unfold Sa at hC;refine .inl ?_;rw[show x.do (.l8 t k1 k2)=(⟨(gX x.ej k1 k2 (t==kM)).1,match(gX x.ej k1 k2 (t==kM)).2 with|.ok z=>aN z.1|.error _=>aO⟩,s9 (gX x.ej k1 k2 (t==kM)).2)from rfl];generalize gX x.ej k1 k2 (t==kM)=r at*;obtain⟨d1,rr⟩:=r;cases rr with
   |error e=>exact⟨(D,0),kg hC⟩
   |ok z=>
    obtain⟨S,hC⟩:=hC;exact⟨(D,S),hC▸(bS.cons _ (eo _ _ _))⟩)
theorem bv0(x:l9)(a:jY)(p:(ah aX×ab)×(ah aX×ab))(hp:x.pre a):
 TR be GG 19 #[bu B,WY a p] [CT B x,dp RS 1 p.1.1 a.texts,dp RN 1 p.2.1 a.iV] (dC λu C=>u=bn (x.do a).2/\C=[CT B (x.do a).1]):=
 bu9 B x a p (x.do a) (aM8 B x a p hp)
def qU:l9:=⟨⟨4194304,0,[],0,0,aQ,aQ⟩,aO⟩
def l9.after(x:l9)(l:Y jY):l9:=l.foldl (λx a=>(x.do a).1) x
def l9.outs(x:l9):Y jY->Bs
 |[]=>[]
 |a::r=>(x.do a).2++[10]++(x.do a).1.outs r
def l9.lZ(x:l9):Y jY->Prop
 |[]=>True
 |a::r=>x.pre a/\(x.do a).1.lZ r
theorem am7(s:Bs)(h:s.length<=20000)(PJ:Y jY)(hp:tH s=.ok (PJ.map jY.cmd))(sF:PJ.length<=1000000)(hg:qU.lZ PJ)(ho:(qU.outs PJ).length<=140737488355328):
 TR be GG 7 #[bn s] [] (dC λu C=>u=.tuple #[bn (qU.outs PJ),.int .i64 0,.int .i64 0]/\C=[]):=by
 refine dH U λb O hb hG=>xS ?_
 refine bD 15 aQ U fD (xS ?_)
 refine cP (WQ s h) ?_
 rw[hp]
 rintro _ _ ⟨q,hq,a,c,rfl,rfl⟩
 dsimp only[bh,bk,bj]
 refine dR a WO q U U (λ_=>rfl) λhqc=>xS ?_
 refine Kg AP 2 ?_
 refine cP (x9 GG 4194304 aO 0 0 [] U eK dW) ?_
 rw[show mh 4194304 []=(aN qU.ej,0)from rfl]
 rintro _ _ ⟨D,rfl,rfl⟩
 refine xD ?_
 refine xP ?_
 intro bb
 refine kq U U λtu=>?_
 refine Yq tu U (xS ?_)
 have KX:PJ.length=q.length:=bH2
 have hout:qU.outs PJ=[]++qU.outs (PJ.drop 0):=U
 generalize qU.outs PJ=out at*
 refine X.dE (bS.trans (bA (A:=[bx bb 53 [bu D,.pointer aO],cJ D qU.ej,QP tu [],dp (cy WO) 3 a q,roC q])) (je (oL bb qU (D,0)) [QP tu [],dp (cy WO) 3 a q,roC q])) ?_
 dsimp only[bh,bk,bj]
 refine X.loop (ι:={z:ab×l9×Bs // z.1<=q.length/\z.2.1.lZ (PJ.drop z.1)/\out=z.2.2++z.2.1.outs (PJ.drop z.1)}) (λz=>([(9,bu bb),(10,bu tu),(31,.slice a q.length c),(32,bR q.length),(33,bR z.1.1)],[CT bb z.1.2.1,QP tu z.1.2.2,dp (cy WO) 3 a q,roC q])) (λz=>q.length - z.1.1)
  ⟨(0,qU,[]),bp _,hg,hout⟩ (Sub.of U) bA ?_
 rintro⟨⟨i,x,acc⟩,hi,Zn,hoe⟩ ih
 dsimp only at hi Zn hoe ⊢
 refine yB (i<q.length) (i=q.length) ?_ ?_<;>intro hi
 ·have hia:i<PJ.length:=bw;rw[bP hia,l9.outs]at hoe;rw[bP hia,l9.lZ]at Zn;have hqi:(q[i]).1=PJ[i].cmd:=by
   have h1:(q.map (·.1))[i]?=(PJ.map jY.cmd)[i]?:=by rw[hq]
   grind
  have jv:=bE hi;have ih:=λx' acc' hg' ho'=>ih ⟨(i+1,x',acc'),by omega,hg',ho'⟩ bQ;dsimp only at ih;generalize PJ.drop (i+1)=tl at*;refine xS ?_;refine dJ U U U U U hi U λbl o=>?_;generalize q[i]=y at*;generalize PJ[i]=cm at*;obtain⟨yc,yp⟩:=y;dsimp only at hqi;subst hqi;refine bB9 q ((cm.cmd,yp):WC) jv λH3 hy2=>?_;dsimp only;refine xS ?_;refine eT U U U U  ?_;refine xA ?_;intro Dn;refine xH (bv0 bb x cm yp Zn.1) ?_;have hgd2:=Zn.2;have hol:=ho;rw[hoe,bK,bK,bK]at hol;generalize hxd:x.do cm=r at*;refine xE (FZ GG tu acc (r.2++[10]) bQ) ?_;exact X.W (ih r.1 (acc++(r.2++[10])) hgd2 bQ)
 ·subst hi;rw[cx bw,l9.outs,bj]at hoe;subst hoe;refine xE (wz GG tu out) ?_;exact cT hb (.tmp U (.tmp U (.tmp U .nil))) ⟨U,U⟩
def BB(l:Y (Bs×cN)):ab:=l.countP λx=>x.2.last==0
def cd.P(d:cd):ab:=BB d.files
theorem Ug(m:Y (Bs×cN)):BB (l++m)=BB l+BB m:=List.countP_append
theorem bv1:BB l<=l.length:=List.countP_le_length
theorem Ho:BB (lL l n)<=BB l:=by
 grind [BB,lL,List.filter_sublist]
theorem w8{n:Bs}{f g:cN}:∀{l:Y (Bs×cN)},(l.map (·.1)).Nodup->kO l n=aN f->BB (oV l n g)+(if f.last=0 then 1 else 0)=BB l+(if g.last=0 then 1 else 0)
 |[],_,h=>by cases h
 |x::r,hn,h=>by
  rw[bN,gy]at hn;unfold kO at h;rw[List.find?_cons]at h;unfold oV BB;rw[bN,List.countP_cons,List.countP_cons];by_cases hx:x.1=n
  ·simp only[hx,decide_true,cO,gR]at h
   subst h
   have hr:r.map (λx=>if x.1=n then(x.1,g)else x)=r:=by
    conv=>rhs;rw[<-List.map_id r]
    grind [cY]
   rw[hr,ao hx]
   grind
  ·simp only[hx,decide_false]at h
   have ih:=w8 (g:=g) hn.2 (show kO r n=aN f from h)
   grind [oV,BB]
theorem nw{n:Bs}{e:ae}(h:s.find n r=(aN f,e)):kO s.files n=aN f/\e=0:=by
 grind [cd.find]
theorem zP{k:ab}(h:BB fs<=s.P+k):(s.jg fs u).1.P<=s.P+k:=bi0
theorem Hq(s:cd)(n:Bs):(s.create n).1.P<=s.P+1:=by
 unfold cd.create;split
 ·exact iz _
 ·split
  ·refine zP ?_;rw[Ug];exact bz _
  grind
theorem OT(hn:(s.files.map (·.1)).Nodup)(n ys:Bs):(s.append n ys).1.P<=s.P:=by
 unfold cd.append
 split
 ·rename_i f e hf;have hg:=(nw hf).1;split
  ·exact bz _
  ·split
   ·exact bz _
   ·refine zP (k:=0) ?_;have h1:=w8 (g:=⟨f.data++ys,f.last⟩) hn hg;show BB _<=BB _+0;dsimp only at h1;omega
 grind
theorem Se(hn:(s.files.map (·.1)).Nodup)(hl:∀x∈s.files,x.2.last<=x.2.data.length)(n:Bs):(s.sync n).1.P<=s.P:=by
 unfold cd.sync
 split
 ·rename_i f e hf;have hg:=(nw hf).1;split
  ·exact bz _
  ·refine zP (k:=0) ?_;have h1:=w8 (g:=⟨f.data,f.data.length⟩) hn hg;have h2:f.last<=f.data.length:=by
    grind [kO,cz]
   show BB _<=BB _+0;dsimp only at h1;by_cases h3:f.last=0
   ·rw[ao h3]at h1;split at h1<;>omega
   ·rw[aj h3,aj bw]at h1;omega
 grind
theorem am9(s:cd)(n:Bs):(s.remove n).1.P<=s.P:=by
 unfold cd.remove;split
 ·exact bz _
 ·exact zP (k:=0) (Ho _ _)
theorem aM9{n:Bs}{l:Y (Bs×cN)}(h:kO l n=aN f):BB (lL l n)+(if f.last=0 then 1 else 0)<=BB l:=by
 induction l<;>grind [kO,lL,BB,Ho]
theorem WZ{l:Y (Bs×cN)}{n m:Bs}(mf:m≠n):kO (lL l n) m=kO l m:=by
 grind [kO,lL]
theorem an0(m:Bs):(s.rename n m).1.P<=s.P:=by
 unfold cd.rename
 split
 ·rename_i f e hf;have hg:=(nw hf).1;split
  ·exact bz _
  ·refine zP (k:=0) ?_;unfold cd.renamed;split
   ·exact bz _
   ·rename_i mf;rw[Ug];have h1:=aM9 (l:=lL s.files m) (n:=n) (f:=f) (by grind [WZ]);have h2:=Ho s.files m;have h3:BB [(m,f)]=if f.last=0 then 1 else 0:=by grind [BB]
    show _<=BB _+0;omega
 grind
theorem Sf(hn:(s.files.map (·.1)).Nodup)(n:Bs)(k:ae):(s.truncate n k).1.P<=s.P+1:=by
 unfold cd.truncate
 split
 ·rename_i f e hf;have hg:=(nw hf).1;split
  ·exact iz _
  ·split
   ·exact iz _
   ·refine zP ?_;have h1:=w8 (g:=⟨f.data.take k.toNat,min f.last k.toNat⟩) hn hg;show BB _<=BB _+1;dsimp only at h1;split at h1<;>split at h1<;>omega
 grind
theorem aN0(s:cd)(k:ae):(s.jU k).P<=s.P:=by
 unfold cd.jU cd.P BB
 rw[List.countP_map]
 apply List.countP_mono_left
 grind [oW]
theorem bv2(s:cd)(n:Bs)(i j:ae):(s.read n i j).1.P<=s.P:=by
 unfold cd.read
 split
 ·split
  ·exact bz _
  ·exact zP (k:=0) (bz _)
 grind
theorem Uh(h:s.ok):s.files.length<=s.P+s.used:=by
 rw[h.yA];have key:∀l:Y (Bs×cN),(∀x∈l,x.2.last<=x.2.data.length)->l.length<=BB l+iq l:=by
  intro l;induction l<;>grind [BB,iq]
 exact key s.files h.last
theorem Ui{l:Y (Bs×cN)}{n:Bs}(h:kO l n=aN f):∃A B,l=A++(n,f)::B:=by
 unfold kO at h
 obtain⟨x,hx,rfl⟩:=cz.1 h
 obtain⟨A,B,h1⟩:=List.append_of_mem (List.mem_of_find?_eq_some hx)
 grind
theorem Uj{n:Bs}(h:(s.find n r).2=71):n∉s.files.map (·.1)/\eO n=aP:=by
 grind [cd.find,kO,Option.map_eq_none_iff]
theorem Hr(h:s.ok)(n:Bs):(s.create n).1.ok:=by
 unfold cd.create;split
 ·exact h
 ·split
  ·rename_i h1;obtain⟨h2,h3⟩:=Uj h1;exact h.jg (h.add h2 h3)
  ·exact h
theorem bi1(h:s.ok){n:Bs}{f':cN}(hg:kO s.files n=aN f)(u:ab)(hu:u+f.data.length=s.used+f'.data.length)(hle:u<=s.cap)(hl:f'.last<=f'.data.length):(s.jg (oV s.files n f') u).1.ok:=by
 obtain⟨A,B,hs⟩:=Ui hg
 refine h.jg ?_
 have j7:=h.nd
 rw[hs]at j7
 have:=h.set hs u hu hle hl
 grind [FT]
theorem aN1(h:s.ok){n:Bs}(hg:kO s.files n=aN f):f.data.length<=s.used/\f.last<=f.data.length:=by
 obtain⟨A,B,hs⟩:=Ui hg;exact⟨(h.len hs).1,(h.len hs).2.1⟩
theorem OU(h:s.ok)(n ys:Bs):(s.append n ys).1.ok:=by
 unfold cd.append;exact bi2
theorem Ht(h:s.ok)(n:Bs):(s.sync n).1.ok:=by
 unfold cd.sync;split
 ·rename_i f e hf;have hg:=(nw hf).1;split
  ·exact h
  ·exact bi1 h hg _ U h.le (bz _)
 ·exact h
theorem an1(h:s.ok)(n:Bs):(s.remove n).1.ok:=by
 unfold cd.remove;split
 ·exact h
 ·exact h.jg (h.del n)
theorem an2(h:s.ok)(n m:Bs):(s.rename n m).1.ok:=by
 unfold cd.rename;split
 ·rename_i f e hf;have hg:=(nw hf).1;have he:=(nw hf).2;split
  ·exact h
  ·refine h.jg (h.renamed hg ?_)
   grind [cd.find]
 ·exact h
theorem Sg(h:s.ok)(n:Bs)(k:ae):(s.truncate n k).1.ok:=by
 unfold cd.truncate;exact bi2
theorem bv3(h:s.ok)(n:Bs)(i j:ae):(s.read n i j).1.ok:=by
 unfold cd.read;split
 ·split
  ·exact h
  ·exact h.jg ⟨h.nd,h.yA,h.le,h.cap,h.fa,h.ba,h.last,h.name⟩
 ·exact h
def DT(n:Bs):ab:=if 21<(fw n).length then 1 else 0
def lg(l:Y (Bs×cN)):ab:=l.countP λx=>decide (21<(fw x.1).length)
def cd.L(d:cd):ab:=lg d.files
theorem an3(f:cN):lg [(n,f)]=DT n:=by
 grind [lg,DT]
theorem an4(m:Y (Bs×cN)):lg (l++m)=lg l+lg m:=List.countP_append
theorem Uk(f:cN):lg (oV l n f)=lg l:=by
 unfold lg oV
 rw[List.countP_map]
 congr 1
 grind
theorem LD:lg (lL l n)<=lg l:=by
 grind [lg,lL,List.filter_sublist]
theorem CU{k:ab}(h:lg fs<=s.L+k):(s.jg fs u).1.L<=s.L+k:=bi0
theorem OV(s:cd)(n:Bs):(s.create n).1.L<=s.L+DT n:=by
 unfold cd.create
 split
 ·grind
 ·split
  ·refine CU ?_;rw[an4,an3];exact bz _
  grind
theorem OW(s:cd)(n ys:Bs):(s.append n ys).1.L<=s.L:=by
 unfold cd.append
 split
 ·exact bi3
 grind
theorem Si(s:cd)(n:Bs):(s.sync n).1.L<=s.L:=by
 unfold cd.sync
 split
 ·exact bO3
 grind
theorem Sj(s:cd)(n:Bs)(k:ae):(s.truncate n k).1.L<=s.L:=by
 unfold cd.truncate
 split
 ·exact bi3
 grind
theorem an5(s:cd)(n:Bs):(s.remove n).1.L<=s.L:=by
 unfold cd.remove;split
 ·exact bz _
 ·exact CU (k:=0) (LD _ _)
theorem an6(s:cd)(n m:Bs):(s.rename n m).1.L<=s.L+DT m:=by
 unfold cd.rename;split
 ·split
  ·exact an7
  ·refine CU ?_;unfold cd.renamed;split
   ·exact an7
   ·rw[an4,an3];have h1:=LD (lL s.files m) n;have h2:=LD s.files m;show _<=lg _+_;omega
 ·exact an7
theorem bv4(s:cd)(n:Bs)(i j:ae):(s.read n i j).1.L<=s.L:=by
 unfold cd.read
 split
 ·split
  ·exact bz _
  ·exact CU (k:=0) (bz _)
 grind
theorem aN2(s:cd)(k:ae):(s.jU k).L<=s.L:=by
 unfold cd.jU cd.L lg;rw[List.countP_map];exact bz _
theorem an8(h:(s.jg fs u).2=0):(s.jg fs u).1.files=fs:=by
 grind [cd.jg]
theorem an9{l:Y (Bs×cN)}{n:Bs}(h:n∉l.map (·.1)):kO (l++[(n,f)]) n=aN f:=by
 grind [kO]
theorem W1{l:Y (Bs×cN)}{n:Bs}{g:cN}(h:kO l n=aN f):kO (oV l n g) n=aN g:=by
 induction l<;>grind [kO,oV]
theorem W3{n d:Bs}(h:(s.write n d).2=0)(hd:d.length≠0):∃f,kO (s.write n d).1.files n=aN f/\f.last=0/\f.data.length≠0:=by
 grind [cd.write,cd.create,Uj,an8,an9,cd.append,W1,cd.find]
theorem aN3(h:s.ok)(n d:Bs):(s.write n d).1.ok:=by
 grind [cd.write,Hr,OU]
theorem Ul(h:s.ok)(n d:Bs):(s.write n d).1.P<=s.P+1:=by
 unfold cd.write;split
 ·exact Hq s n
 ·exact bo (OT (Hr h n).nd n d) (Hq s n)
theorem aN4(s:cd)(n d:Bs):(s.write n d).1.L<=s.L+DT n:=by
 grind [cd.write,OV,OW]
theorem ao0(h:s.ok){n:Bs}(hg:kO s.files n=aN f)(hl:f.last=0)(hd:f.data.length≠0)(h0:(s.sync n).2=0):(s.sync n).1.P+1<=s.P:=by
 unfold cd.sync at h0 ⊢
 split at h0
 ·rename_i f' e hf;have S7:=(nw hf).1;rw[hg]at S7;cases S7;split at h0
  ·omega
  ·rename_i h4
   rw[aj h4]
   unfold cd.P
   rw[an8 h0]
   have h1:=w8 (g:=⟨f.data,f.data.length⟩) h.nd hg
   grind
 grind [cd.find]
theorem bv5(h:s.ok)(st:fY):(s.step st).1.ok:=by
 grind [cd.step,an1,aN3,Ht,an2,Sg]
def OX(st:fY):ab:=if st.op=1\/st.op=3\/st.op=4 then 0 else if st.op=2/\st.data.length≠0 then 0 else 1
def Ej(ss:Y fY):ab:=(ss.map OX).sum
def EP(st:fY):Prop:=(st.op=2->DT st.name=0)/\(st.op=4->DT st.vG=0)
def zQ:Y fY->Prop
 |[]=>True
 |st::r=>(st.op=2->∃st2 r2,r=st2::r2/\st2.op=3/\st2.name=st.name)/\zQ r
theorem bv6(s:cd){st:fY}(h:EP st):(s.step st).1.L<=s.L:=by
 unfold cd.step;split
 ·exact an5 _ _
 ·split
  ·rename_i h2;have:=aN4 s st.name st.data;rw[h.1 h2]at this;exact this
  ·split
   ·exact Si _ _
   ·split
    ·rename_i h4;have:=an6 s st.name st.vG;rw[h.2 h4]at this;exact this
    grind [Sj]
theorem bv7(h:s.ok)(st:fY):(s.step st).1.P<=s.P+(if st.op=2 then 1 else OX st):=by
 unfold cd.step
 split
 ·grind [am9]
 ·split
  ·grind [Ul]
  ·split
   ·exact bo (Se h.nd h.last _) (bW _ _)
   ·split
    ·grind [an0]
    ·rename_i h1 h2 h3 h4;have:OX st=1:=by grind [OX]
     rw[this];exact Sf h.nd _ _
theorem LF:∀(m:ab) (ss:Y fY),ss.length<=m->∀(s:cd) (i:ab),s.ok->zQ ss->(∀st∈ss,EP st)->(s.run ss i).1.ok/\(s.run ss i).1.P<=s.P+Ej ss+1/\(s.run ss i).1.L<=s.L
 |_,[],_,s,i,h,_,_=>⟨h,bo (bW _ _) (iz _),bz _⟩
 |m+1,st::r,hm,s,i,h,hp,hs=>by
  rw[cd.run];have hk:=bv5 h st;have hP:=bv7 h st;have hL:=bv6 s (hs st dW);have hc:Ej (st::r)=OX st+Ej r:=U;have hE:OX st<=1:=by grind [OX]
  by_cases he:(s.step st).2≠0
  ·rw[ao he];refine⟨hk,?_,hL⟩;dsimp only;split at hP<;>omega
  ·rw[aj he];have he:(s.step st).2=0:=bw;rw[bL]at hm;by_cases h2:st.op=2/\st.data.length≠0
   ·obtain⟨st2,r2,rfl,h3,h4⟩:=hp.1 h2.1;have ir:s.step st=s.write st.name st.data:=Rn;rw[ir]at he hk hL ⊢;obtain⟨f,hf1,MI,hf3⟩:=W3 he h2.2;have hPw:=Ul h st.name st.data;generalize(s.write st.name st.data).1=s1 at*;rw[cd.run];have MH:s1.step st2=s1.sync st.name:=Rn;rw[MH];have Qq:Ej (st2::r2)=OX st2+Ej r2:=U;have Za:OX st2=0:=by grind [OX]
    have hL2:=Si s1 st.name;by_cases he2:(s1.sync st.name).2≠0
    ·rw[ao he2]
     have:=Se hk.nd hk.last st.name
     grind [Ht]
    ·rw[aj he2]
     have:=ao0 hk hf1 MI hf3 bw
     rw[bL]at hm
     obtain⟨k1,k2,k3⟩:=LF m r2 bw (s1.sync st.name).1 (i+1+1) (Ht hk _) hp.2.2 (λx hx=>hs x N0)
     grind
   ·have hPs:(s.step st).1.P<=s.P+OX st:=by
     grind [OX]
    obtain⟨k1,k2,k3⟩:=LF m r bw (s.step st).1 (i+1) hk hp.2 (λx hx=>hs x N0);exact⟨k1,by omega,by omega⟩
theorem ao1(h:s.ok){ss:Y fY}(hp:zQ ss)(hs:∀st∈ss,EP st):(s.nO ss).1.ok/\(s.nO ss).1.P<=s.P+Ej ss+1/\(s.nO ss).1.L<=s.L:=by
 unfold cd.nO
 split
 ·grind
 ·exact LF _ ss (bz _) s 0 h hp hs
end
section
variable{k N j:ab}{l:Y ca}{x:WD}{d:cd}{m m':Mk}{nm:Bs}{ss a:Y fY}{cap e:ae}{f:ca}(b:Bs)(c:ab)(s:cd)(p:Place)(n:Bs)
def tI(c:au):Prop:=33<=c.toNat/\c.toNat<=126/\c≠37
theorem Hu{s:Bs}(h:∀c∈s,tI c)(h1:s≠[])(h2:s≠[45]):fw s=s:=by
 unfold fw
 rw[aj h1,aj h2]
 have:∀l:Bs,(∀c∈l,tI c)->l.flatMap kD=l:=by
  intro l;induction l with
  |nil=>intro _;rfl
  |cons c r ih=>
   intro hl
   rw[ei,ih λx hx=>hl x N0]
   have hc:33<=c.toNat/\c.toNat<=126/\c≠37:=hl c dW
   grind [kD]
 grind
theorem Hv(k:ab)(h:k<16):tI (ji k):=by
 have:∀k:Fin 16,33<=(ji k.val).toNat/\(ji k.val).toNat<=126/\ji k.val≠37:=eK;exact this ⟨k,h⟩
theorem Hw:∀(f u:ab),∀c∈KY f u,tI c
 |0,_,c,h=>by cases h
 |f+1,u,c,h=>by
  rw[KY]at h;split at h
  ·rename_i hu;rw[cK.1 h];exact Hv u hu
  ·rcases du.1 h with h|h
   ·exact Hw f _ c h
   ·rw[cK.1 h];exact Hv _ (Nat.mod_lt _ eK)
theorem IB(hc:1<=c/\c<=3)(n:av):(∀x∈jk c n,tI x)/\(jk c n).length<=17/\8<=(jk c n).length:=by
 have hl:=Gg n;have hh:(∀x∈lX c,tI x)/\(∀x∈lY c,tI x)/\(lX c).length=4/\4<=(lY c).length/\(lY c).length<=5:=by
  have:c=1\/c=2\/c=3:=bw;unfold tI;rcases this with rfl|rfl|rfl<;>decide
 unfold jk;refine⟨λx hx=>?_,?_,?_⟩
 ·simp only[du]at hx
  rcases hx with((hx|hx)|hx)|hx
  ·grind
  ·rw[List.eq_of_mem_replicate hx];exact⟨by decide,by decide,by decide⟩
  ·exact Hw _ _ x hx
  grind
 all_goals grind
theorem CV(hc:1<=c/\c<=3)(n:av):DT (jk c n)=0/\DT (jk c n++jl)=0:=by
 obtain⟨h1,h2,h3⟩:=IB c hc n;have ht:∀x∈jl,tI x:=by unfold jl tI;decide
 have e1:fw (jk c n)=jk c n:=Hu h1 bQ bQ;have e2:fw (jk c n++jl)=jk c n++jl:=Hu (λx hx=>(du.1 hx).elim (h1 x) (ht x)) (by grind [bK]) (by grind [bK]);unfold DT;rw[e1,e2];refine⟨aj bw,aj ?_⟩;rw[bK];have:jl.length=4:=U;omega
theorem Um:DT []=0/\DT ([]++jl)=0:=eK
theorem Hx(n:av):DT (gU c n).1=0/\DT ((gU c n).1++jl)=0:=by
 grind [gU,CV,Um]
theorem OY:DT (gp n).1=0/\DT ((gp n).1++jl)=0:=by
 grind [gp,CV,Um]
theorem aN5{n:Bs}(h:(cR n).1=1):DT n=0/\DT (n++jl)=0:=by
 grind [CV,DJ]
theorem Hy:∀{a b:Y fY},zQ a->zQ b->zQ (a++b)
 |[],_,_,hb=>hb
 |st::r,b,ha,hb=>by
  refine⟨λh2=>?_,Hy ha.2 hb⟩;obtain⟨st2,r2,rfl,h3,h4⟩:=ha.1 h2;exact⟨st2,r2++b,U,h3,h4⟩
theorem ao2(a b:Y fY):Ej (a++b)=Ej a+Ej b:=by grind [Ej]
structure qH(ss:Y fY)(k:ab):Prop where
 pr:zQ ss
 sh:∀st∈ss,EP st
 cn:Ej ss<=k
theorem qH.nil:qH [] 0:=⟨trivial,λ_ h=>(by cases h),bz _⟩
theorem qH.app{b:Y fY}(h:qH a k)(g:qH b j):qH (a++b) (k+j):=
 ⟨Hy h.pr g.pr,λst hs=>(du.1 hs).elim (h.sh st) (g.sh st),by rw[ao2];have:=h.cn;have:=g.cn;omega⟩
theorem qH.mono(h:qH a k)(hk:k<=j):qH a j:=⟨h.pr,h.sh,bo h.cn hk⟩
theorem qH.one{st:fY}(h2:st.op≠2)(h4:st.op≠4):qH [st] (OX st):=
 ⟨⟨λh=>aD h h2,trivial⟩,λs hs=>by rw[cK.1 hs];exact⟨λh=>aD h h2,λh=>aD h h4⟩,bz _⟩
theorem qH.ahead{d:Bs}(h1:DT nm=0)(h2:DT (nm++jl)=0):qH [⟨2,nm++jl,[],d,0⟩,⟨3,nm++jl,[],[],0⟩,⟨4,nm++jl,nm,[],0⟩] (if d.length=0 then 1 else 0):=by
 refine⟨⟨λ_=>⟨_,_,U,U,U⟩,λh=>by simp at h,λh=>by simp at h,trivial⟩,λst hs=>?_,?_⟩
 ·simp only[cW,List.not_mem_nil,or_false]at hs;rcases hs with rfl|rfl|rfl
  ·exact⟨λ_=>h2,λh=>by simp at h⟩
  ·exact⟨λh=>by simp at h,λh=>by simp at h⟩
  ·exact⟨λh=>by simp at h,λ_=>h1⟩
 grind [Ej,OX]
theorem rQ{s:fY}(e:m.do s=.ok m'):m'.steps=m.steps++[s]/\m'.dP=m.dP:=by
 grind [Mk.do]
theorem vW{d:Bs}(h:qH m.steps k)(h1:DT nm=0)(h2:DT (nm++jl)=0)(e:m.ahead nm d=.ok m'):qH m'.steps (k+(if d.length=0 then 1 else 0))/\m'.dP=m.dP:=by
 unfold Mk.ahead at e;split at e
 ·cases e
 ·rename_i m1 e1;split at e
  ·cases e
  ·rename_i m2 e2;obtain⟨a1,b1⟩:=rQ e1;obtain⟨a2,b2⟩:=rQ e2;obtain⟨a3,b3⟩:=rQ e;refine⟨?_,by rw[b3,b2,b1]⟩;rw[a3,a2,a1,cB,cB];exact h.app (qH.ahead h1 h2)
theorem PU{j:Bs}{z:Mk×Bs}(h:qH m.steps k)(hj:j.length≠0)(e:m.yE j=.ok z):qH z.1.steps k/\z.1.dP=m.dP:=by
 unfold Mk.yE at e;split at e
 ·cases e
 ·rename_i m' e'
  cases e
  obtain⟨h1,h2⟩:=Hx 3 (im 3 (m.now.map (·.name))).1
  have:=vW h h1 h2 e'
  grind
theorem Sk{b:Bs}(h:(hintOf b).2=0):(hintOf b).1.length≠0:=by
 grind [hintOf,D',oA,AI]
theorem PN{b:Bs}{z:Mk×ae}(h:qH m.steps k)(e:m.hint nm b=.ok z):qH z.1.steps k/\z.1.dP=m.dP:=by
 obtain⟨l1,l2⟩:=OY nm;unfold Mk.hint at e;split at e
 ·split at e
  ·grind
  ·dsimp only at e;split at e
   ·exact bi4
   ·split at e
    ·cases e
    ·rename_i m' e';cases e;obtain⟨a1,b1⟩:=rQ e';refine⟨?_,b1⟩;dsimp only;rw[a1];exact h.app (qH.one dW dW)
 ·split at e
  ·grind
  ·exact bi4
theorem ao3:∀x∈dL b,x.dP=aP->0<x.len:=by
 have hj:∀(a:ae) (l:Y Ext) (t:ae),(∀x∈l,x.dP=aP->0<x.len)->∀x∈nB a l t,x.dP=aP->0<x.len:=by
  grind [nB]
 have key:∀(L:Y tK) (s:ae×Y Ext),(∀x∈s.2,x.dP=aP->0<x.len)->∀x∈(L.foldl lD s).2,x.dP=aP->0<x.len:=by
  intro L;induction L<;>grind [lD]
 exact hj _ _ _ (key _ _ dW)
theorem aN6{b:Bs}(h:0<nJ (dL b)):(EF b (dL b)).length≠0:=by
 obtain⟨iP,gj⟩:=qe b
 have hp:=ao3 b
 generalize dL b=L at*
 have:∃x∈L,x.dP=aP:=by
  unfold nJ at h;simp_all
 grind [EF,List.flatMap_eq_nil_iff,zA]
theorem bv9:(EF b (dL b)).length<=b.length:=by
 obtain⟨iP,gj⟩:=qe b;have:=Ba b (dL b) gj;omega
theorem Kf(h:qH m.steps m.dP)(hn:(cR f.name).1=1)(e:m.pK f=.ok m'):qH m'.steps m'.dP/\m'.dP<=m.dP+f.data.length:=by
 have hj:=bv9 f.data;obtain⟨l1,l2⟩:=aN5 hn;unfold Mk.pK at e;dsimp only at e;split at e
 ·rename_i h0;have hp:=aN6 h0;split at e
  ·cases e
  ·rename_i z ez;have hq:=PU (m:={m with cG:=m.cG+nF (dL f.data),dP:=m.dP+(EF f.data (dL f.data)).length}) (k:=m.dP) h hp ez;obtain⟨q1,q2⟩:=hq;dsimp only at q2;split at e
   ·obtain⟨a1,b1⟩:=rQ e
    refine⟨?_,by omega⟩
    rw[a1,b1,q2]
    refine(q1.app (qH.one dW dW)).mono ?_
    grind [OX]
   ·obtain⟨a1,b1⟩:=vW q1 l1 l2 e
    refine⟨a1.mono ?_,by omega⟩
    grind
 ·cases e;refine⟨h.mono ?_,?_⟩;all_goals grind
theorem Mf(h:qH m.steps m.dP)(hn:(cR f.name).1=1)(e:m.clean f=.ok m'):qH m'.steps m'.dP/\m'.dP<=m.dP+f.data.length:=by
 unfold Mk.clean at e;split at e
 ·cases e
 ·rename_i m2 e2;have h2:=Kf h hn e2;split at e
  ·cases e
  ·rename_i m3 e3
   cases e
   obtain⟨a,b⟩:=PN h2.1 e3
   grind
theorem OZ(ts:Y av):∀(L:Y Eb) (m m':Mk),(∀x∈L,(cR x.jE.name).1=1)->qH m.steps m.dP->mj (s8 ts) L m=.ok m'->qH m'.steps m'.dP/\m'.dP<=m.dP+(L.map λx=>x.jE.data.length).sum
 |[],m,m',_,h,e=>by cases e;grind
 |x::r,m,m',hn,h,e=>by
  unfold mj at e;split at e
  ·cases e
  ·rename_i m1 e1
   have h1:qH m1.steps m1.dP/\m1.dP<=m.dP+x.jE.data.length:=by
    unfold s8 at e1
    split at e1
    ·grind
    ·split at e1
     ·cases e1
     ·rename_i m3 e3;cases e1;have hc:=Mf h (hn x dW) e3;omega
   have h2:=OZ ts r m1 m' (λy hy=>hn y D9) h1.1 e
   grind
theorem Un(c:ae):∀l:Y ca,((nP c l).map λx=>x.jE.data.length).sum<=cq l
 |[]=>bz _
 |f::r=>by
  have ih:=Un c r;unfold nP cq at*;rw[fZ,bN,fS];split
  ·omega
  ·rename_i y hy;split at hy
   ·cases hy;rw[bN,fS];dsimp only;omega
   ·cases hy
theorem O0(c:ae)(l:Y ca):((yC c l).map λx=>x.jE.data.length).sum<=cq l:=by
 grind [jV,yC,Un]
theorem Sm{c:ae}{x:Eb}(h:x∈yC c l):((cR x.jE.name).1:ae)=c:=by
 grind [yC,jV,nP]
theorem CW{α:Type}{f:Mk->α->aB ae Mk}(hf:∀m x m',f m x=.ok m'->(m'.steps=m.steps\/∃st:fY,st.op=1/\m'.steps=m.steps++[st])/\m'.dP=m.dP):∀(l:Y α) (m m':Mk) (k:ab),qH m.steps k->mj f l m=.ok m'->qH m'.steps k/\m'.dP=m.dP
 |[],m,m',k,h,e=>by cases e;grind
 |x::r,m,m',k,h,e=>by
  unfold mj at e;split at e
  ·cases e
  ·rename_i m1 e1;obtain⟨a,b⟩:=hf _ _ _ e1;have h1:qH m1.steps k:=by
    rcases a with a|⟨st,hs,a⟩
    ·grind
    ·rw[a]
     refine(h.app (qH.one bw bw)).mono ?_
     grind [OX]
   obtain⟨h2,h3⟩:=CW hf r m1 m' k h1 e;exact⟨h2,h3.trans b⟩
theorem W4{ts:Y av}(e:gV l cap ts=.ok m):qH m.steps m.dP/\m.dP<=cq l:=by
 unfold gV at e;split at e
 ·cases e
 ·split at e
  ·cases e
  ·rename_i m1 e1;have i1:=CW (f:=zB) (λm x m' h=>by
    unfold zB at h
    obtain⟨a,b⟩:=rQ h
    grind) _ _ _ 0 qH.nil e1
   split at e
   ·cases e
   ·rename_i m2 e2
    have hj1:m1.dP=0:=i1.2
    have i2:=OZ ts _ _ _ (λx hx=>by grind [Sm]) bQ e2
    have i3:=CW (f:=sf l) (λm x m' h=>by
     unfold sf at h
     split at h
     ·grind
     ·split at h
      ·cases h
      ·rename_i m3 e3
       cases h
       obtain⟨a,b⟩:=rQ e3
       grind) _ _ _ _ i2.1 e
    grind [O0]
theorem DU:∀(f:ab) (b:Bs) (at_:ab),9*(mw f b at_).length<=b.length - at_
 |0,_,_=>bp _
 |f+1,b,at_=>by
  unfold mw;have h:=rG b at_;split
  ·exact bp _
  ·have h2:=DU f b ((ga b at_).2.1+(ga b at_).2.2).toNat
   grind
theorem Hz:9*(mG b).length<=b.length:=bo (DU _ b 0) (Nat.sub_le _ _)
theorem xd(ks:Y ae):9*(il b ks).length<=b.length:=by
 grind [Hz,il]
theorem HA:∀l:Y ca,9*Bq (wR l)<=cq l
 |[]=>bz _
 |f::r=>by
  have ih:=HA r;unfold wR Bq cq at*;rw[fZ,bN,fS];split
  ·omega
  ·rename_i y hy;unfold Wj at hy;split at hy
   ·cases hy
   ·cases hy
    have:=xd f.data []
    grind
theorem Sn(l:Y ca):9*Bq (wS l)<=cq l:=by
 grind [wS,JM,jV,HA]
theorem O1(l:Y ca):9*(wT l).length<=cq l:=by
 grind [G',uj,Sn,wT]
theorem W5(size:ae):∀(l:Y Rec),(q8 l size).length<=l.length:=by
 intro l
 unfold q8
 have key:∀(l:Y Rec) (o:Y Bs),(l.foldl (qS size) o).length<=o.length+l.length:=by
  intro l;induction l<;>grind [qS]
 grind
theorem E2{m:MM}{d:Bs}(h:qH m.steps k)(h1:DT nm=0)(h2:DT (nm++jl)=0):qH (m.ahead nm d).steps (k+1):=by
 refine(h.app (qH.ahead (d:=d) h1 h2)).mono ?_
 grind
theorem Ma{m:MM}{d:Bs}(h:qH m.steps k):qH (m.writes d).steps (k+2):=by
 obtain⟨a1,a2⟩:=Hx 1 (im 1 m.names).1;obtain⟨b1,b2⟩:=OY m.fresh;exact E2 (E2 h a1 a2) b1 b2
theorem LG:qH [⟨1,nm,[],[],0⟩] 0:=by grind [qH.one,OX]
theorem Kb{m:MM}{s:o9}(h:qH m.steps k):qH (m.iL s).steps k:=by
 unfold MM.iL;split
 ·exact((h.app LG).app LG)
 ·exact h.app LG
theorem bw0(l:Y ca)(jK:Y o9)(fresh:Y Bs):qH (Ef l jK fresh).steps (2*fresh.length):=by
 unfold Ef;split
 ·exact qH.nil.mono (bp _)
 ·have hw:∀(fr:Y Bs) (m:MM) (k:ab),qH m.steps k->qH (fr.foldl MM.writes m).steps (k+2*fr.length):=by
   intro fr;induction fr with
   |nil=>grind
   |cons d r ih=>
    intro m k h;rw[eD,bL];exact(ih _ _ (Ma (d:=d) h)).mono bw
  have hr:∀(o:Y o9) (m:MM) (k:ab),qH m.steps k->qH (o.foldl MM.iL m).steps k:=by
   intro o;induction o<;>grind [Kb]
  have:=hw fresh ⟨[],l.map (·.name)⟩ 0 qH.nil
  grind
theorem W6{size:ae}(e:qT l size cap=.ok ss):qH ss 1000000:=by
 unfold qT at e;split at e
 ·cases e
 ·split at e
  ·cases e
  ·rename_i h;split at e
   ·cases e
   ·cases e
    refine(bw0 _ _ _).mono ?_
    grind [W5,O1]
structure mL(s t:cd)(k:ab):Prop where
 ok:t.ok
 P:t.P<=s.P+k
 L:t.L<=s.L
theorem mL.refl{s:cd}(h:s.ok):mL s s 0:=⟨h,bz _,bz _⟩
theorem mL.trans{s t u:cd}(h:mL s t k)(g:mL t u j):mL s u (k+j):=⟨g.ok,by have:=h.P;have:=g.P;omega,bo g.L h.L⟩
theorem mL.mono{s t:cd}(h:mL s t k)(hk:k<=j):mL s t j:=⟨h.ok,bo h.P bw,h.L⟩
theorem LH{s:cd}(h:s.ok)(n:Bs):mL s (s.sync n).1 0:=⟨Ht h n,Se h.nd h.last n,Si s n⟩
theorem W7{s:cd}(h:s.ok)(n ys:Bs):mL s (s.append n ys).1 0:=⟨OU h n ys,OT h.nd n ys,OW s n ys⟩
theorem J0{s:cd}(h:s.ok){n:Bs}(hn:DT n=0):mL s (s.create n).1 1:=⟨Hr h n,Hq s n,by grind [OV]⟩
theorem aN7{s:cd}(h:s.ok)(n:Bs)(i j:ae):mL s (s.read n i j).1 0:=⟨bv3 h n i j,bv2 s n i j,bv4 s n i j⟩
theorem ao4{s:cd}(h:s.ok)(k:ae):mL s (s.jU k) 0:=⟨h.jU k,aN0 s k,aN2 s k⟩
theorem Uo{s:cd}(h:s.ok)(hs:qH ss k):mL s (s.nO ss).1 (k+1):=by
 obtain⟨a,b,c⟩:=ao1 h hs.pr hs.sh;exact⟨a,by have:=hs.cn;omega,c⟩
theorem LI:∀(l:Y (ca×ca)) (s:cd),s.ok->mL s (Lx l s).1 0
 |[],s,h=>mL.refl h
 |x::r,s,h=>by
  unfold Lx;split
  ·exact LI r s h
  ·split
   ·exact LH h _
   ·exact(LH h _).trans (LI r _ (Ht h _))
theorem CY(h:x.2.ok):mL x.2 x.settle.1.2 0:=by
 grind [WD.settle,mL.refl,LH]
theorem O2(h:x.2.ok):mL x.2 x.sync.1.2 0:=by
 grind [WD.sync,mL.refl,CY]
theorem J1(h:x.2.ok):mL x.2 x.close.1.2 0:=O2 h
theorem HB(h:x.2.ok):mL x.2 x.begin.1.2 1:=by
 have h1:=CY h;unfold WD.begin;dsimp only;split
 ·exact h1.mono bw
 ·have hn:∀w:Wr,DT (iG w)=0:=λw=>(Hx 1 _).1;split
  ·exact h1.trans (J0 h1.ok (hn _))
  ·exact h1.trans (J0 h1.ok (hn _))
theorem aN8(h:x.2.ok)(p:Place):mL x.2 (WD.Eg x p).1.2 0:=by
 grind [WD.Eg,CY,mL.refl]
theorem Up(h:x.2.ok)(b:Bs):mL x.2 (WD.zK x b).1.2 0:=by
 unfold WD.zK;dsimp only;have h1:=W7 h (iG x.1) b;split
 ·exact h1
 ·exact h1.trans (aN8 (x:=(_,(x.2.append (iG x.1) b).1)) h1.ok _)
theorem bw1(h:x.2.ok)(r:Rec):mL x.2 (WD.put x r).1.2 1:=by
 unfold WD.put;split
 ·exact(mL.refl h).mono bw
 ·split
  ·exact(mL.refl h).mono bw
  ·dsimp only;split
   ·split
    ·exact HB h
    ·exact(HB h).trans (Up (HB h).ok _)
   ·exact(Up h _).mono bw
def Ek(p:Place):Prop:=p.at_<=1000000000/\p.len<=1000000000
theorem Ek.ok{p:Place}(h:Ek p):OH p:=⟨by have:=h.1;omega,by have:=h.2;omega⟩
def fu.pl(d:fu):Prop:=∀x∈d,∀s∈x.2,Ek s.place
theorem Uq{d:fu}(h:d.pl)(k:Bs):∀s∈mi d k,Ek s.place:=by
 intro s hs;unfold mi at hs;cases hf:d.find? (λx=>decide (x.1=k))with
 |none=>grind
 |some x=>rw[hf]at hs;exact h x (List.mem_of_find?_eq_some hf) s hs
theorem J2{l:Y Seen}{s:Seen}(hl:∀x∈l,Ek x.place)(hs:Ek s.place):∀x∈nD l s,Ek x.place:=by
 grind [nD]
theorem aN9{d:fu}{s:Seen}(h:d.pl)(hs:Ek s.place):(d.take s).pl:=by
 intro x hx y hy
 unfold fu.take Iq at hx
 rcases cW.1 hx with rfl|hx
 ·grind [J2,Uq]
 ·exact h x ((eM.1 hx).1) y hy
theorem LJ{d:fu}{l:Y Seen}(h:d.pl)(hl:∀s∈l,Ek s.place):(d.add l).1.pl:=by
 unfold fu.add;split
 ·exact h
 ·dsimp only
  have:∀(l:Y Seen) (d:fu),d.pl->(∀s∈l,Ek s.place)->(l.foldl fu.take d).pl:=by
   intro l;induction l<;>grind [aN9]
  grind
theorem ao5{d:fu}(h:d.pl)(k:Bs):Ek (d.get k).1.place:=by
 have hz:Ek Seen.zero.place:=⟨by decide,by decide⟩
 have hl:Ek (d.last k).1.place:=by
  unfold fu.last;split
  ·exact hz
  ·rename_i mf;split
   ·exact hz
   ·have h1:=DG mf;exact Uq h k _ (eM.1 h1).1
 grind [fu.get]
theorem J3:∀(f:ab) (b:Bs) (at_:ab),∀x∈mw f b at_,0<=x.at_/\9<=x.size/\x.at_+x.size<=b.length
 |0,_,_,x,hx=>by cases hx
 |f+1,b,at_,x,hx=>by
  unfold mw at hx;have h:=rG b at_;split at hx
  ·cases hx
  ·rcases cW.1 hx with rfl|hx
   ·grind
   ·exact J3 f b _ x hx
theorem LK(hl:∀f∈l,f.data.length<=4194304):∀x∈ni l,Ek x.1:=by
 intro x hx
 unfold ni pw at hx
 obtain⟨f,hf,hx⟩:=List.mem_flatMap.1 hx
 obtain⟨y,hy,rfl⟩:=cu.1 hx
 have h1:=J3 _ _ _ y ((eM.1 hy).1)
 grind [yC,jV,nP,recAt,Ek]
theorem Sp:fu.pl []:=λ_ h=>(by cases h)
theorem aO0(hl:∀f∈l,f.data.length<=4194304):(vJ l).pl:=by
 unfold vJ
 have hv:=LK hl
 generalize ni l=V at*
 have:∀(V:Y (Place×Rec)) (d:fu),d.pl->(∀x∈V,Ek x.1)->(V.foldl pQ d).pl:=by
  intro V;induction V with
  |nil=>grind
  |cons x r ih=>
   intro d h hv;refine ih _ ?_ λy hy=>hv y D9;unfold pQ;exact LJ h λs hs=>by rw[cK.1 hs];exact hv x dW
 grind [Sp]
theorem aO1(hl:∀f∈l,f.data.length<=4194304):(Is l).pl:=by
 unfold Is;exact LJ Sp λs hs=>by
  obtain⟨x,hx,rfl⟩:=cu.1 hs;exact LK hl x hx
theorem W8{d:fu}(h:d.pl)(p:Place)(body:Bs):(d.settle p body).1.pl:=by
 unfold fu.settle;split
 ·dsimp only;intro x hx y hy;unfold fu.settled at hx;obtain⟨z,hz,h1⟩:=List.mem_filterMap.1 hx;split at h1
  ·cases h1
  ·cases h1;dsimp only at hy;have key:∀(l acc:Y Seen),(∀s∈l,Ek s.place)->(∀s∈acc,Ek s.place)->∀s∈l.foldl (λacc s=>if(gk p body s).2=aP then nD acc (gk p body s).1 else acc) acc,Ek s.place:=by
    intro l;induction l with
    |nil=>grind
    |cons s r ih=>
     intro acc hl ha;refine ih _ (λx hx=>hl x N0) ?_;dsimp only;split
     ·refine J2 ha ?_
      grind [gk]
     ·exact ha
   exact key z.2 [] (h z hz) dW y hy
 ·exact h
theorem aO2(p:Prn):∀x∈(iF b p).1,x.at_<=4194304/\x.len<=4194304:=by
 have key:∀(f:ab) (b:Bs) (m:ab) (s:HZ),(∀x∈s.l,x.at_<=4194304/\x.len<=4194304)->∀x∈(XA tW f b m s).1.l,x.at_<=4194304/\x.len<=4194304:=by
  intro f;induction f with
  |zero=>intro b m s h;exact h
  |succ f ih=>
   intro b m s h;unfold XA;split
   ·exact h
   ·split
    ·exact h
    ·rename_i h2
     have hg:=j' (tB b m Cc)
     obtain⟨_,_,_,_,_,h3,_,h4,_⟩:=hg
     grind [tW]
 unfold iF;dsimp only;split
 ·simp
 ·split
  ·simp
  ·exact key _ _ _ _ (by simp[HZ.zero])
def pU(l:Y Src):Prop:=∀s∈l,s.data.length<=4194304/\∀x∈s.gw,x.at_<=4194304/\x.len<=4194304
theorem aO3{s:Src}(h:s.data.length<=4194304/\∀x∈s.gw,x.at_<=4194304/\x.len<=4194304):∀y∈iZ s,Ek y.place:=by
 intro y hy
 unfold iZ at hy
 split at hy
 ·grind [qh,Ek]
 ·obtain⟨x,hx,rfl⟩:=cu.1 hy;exact LK (λf hf=>by grind) x hx
theorem ao6{l:Y Src}(h:pU l):(jb l).pl:=by
 unfold jb
 have:∀(l:Y Src) (d:fu),d.pl->pU l->(l.foldl Bi d).pl:=by
  intro l;induction l with
  |nil=>grind
  |cons s r ih=>
   intro d h hl;refine ih _ ?_ λy hy=>hl y D9;exact LJ h (aO3 (hl s dW))
 grind [Sp]
theorem ao7{l:Y Src}(h:pU l):(DK l).pl:=by
 unfold DK nR;exact yh (I:=fu.pl) (λz s p _ h=>W8 h p _) l _ _ (ao6 h)
theorem aO4(hl:∀f∈l,f.data.length<=4194304):pU (uY l):=by
 intro s hs;unfold uY at hs;obtain⟨f,hf,h⟩:=List.mem_filterMap.1 hs;unfold qY at h;split at h
 ·cases h
 ·split at h
  ·grind
  ·cases h;exact⟨hl f hf,aO2 _ _⟩
theorem Sq{l:Y Src}(h:pU l):pU (jO l):=by
 have h1:∀(l l':Y Src),pU l->o7 l=aN l'->pU l':=by
  grind [pU,oZ,o7]
 have h2:∀(n:ab) (l:Y Src),pU l->pU (o8 n l):=by
  intro n;induction n<;>grind [o8]
 exact h2 _ l h
theorem ao8{l:Y Src}{fs:Y ca}(h:pU l)(hf:∀f∈fs,f.data.length<=4194304):pU (sr l fs):=by
 unfold sr;induction fs generalizing l with
 |nil=>exact h
 |cons f r ih=>
  refine ih ?_ λg hg=>hf g (by simp[hg]);intro s hs;obtain⟨x,hx,rfl⟩:=cu.1 hs;unfold thenS;split
  ·exact⟨hf f dW,(h x hx).2⟩
  ·exact h x hx
def eS(e:ae):Prop:=0<=e/\e<=200
theorem eS.ok(h:eS e):Iw e:=⟨by have:=h.1;omega,by have:=h.2;omega⟩
theorem eS.of(e:ae)(h0:0<=e)(h1:e<=200):eS e:=⟨h0,h1⟩
theorem CZ(fs:Y (Bs×cN))(u:ab):eS (s.jg fs u).2:=by
 unfold cd.jg;split
 ·exact bO4
 exact Ur
theorem Sr(r:ai):eS (s.find n r).2:=by
 unfold cd.find;split
 ·exact HC
 ·split
  ·exact HC
  exact Ur
theorem yo{s:cd}{n:Bs}{r:ai}{o:ah cN}(h:s.find n r=(o,e)):eS e:=by
 grind [Sr]
theorem O3:eS (s.create n).2:=by
 unfold cd.create
 split
 ·exact HC
 grind [CZ,Sr]
theorem O4(ys:Bs):eS (s.append n ys).2:=by
 unfold cd.append
 split
 ·exact bi5
 grind [yo]
theorem Ss:eS (s.sync n).2:=by
 grind [cd.sync,yo,CZ]
theorem ao9:eS (s.remove n).2:=by
 grind [cd.remove,Sr,CZ]
theorem ap0(m:Bs):eS (s.rename n m).2:=by
 grind [cd.rename,yo,CZ]
theorem St(k:ae):eS (s.truncate n k).2:=by
 unfold cd.truncate
 split
 ·exact bi5
 grind [yo]
theorem bw2(i j:ae):eS (s.read n i j).2.2:=by
 grind [cd.read,yo,CZ]
theorem bw3(st:fY):eS (s.step st).2:=by
 grind [cd.step,ao9,cd.write,O3,O4,Ss,ap0,St]
theorem bi6:∀(ss:Y fY) (s:cd) (i:ab),eS (s.run ss i).2.2
 |[],_,_=>⟨Int.le_refl 0,show(0:ae)<=200 by decide⟩
 |st::r,s,i=>by
  rw[cd.run];split
  ·exact bw3 s st
  ·exact bi6 r _ _
theorem ap1(ss:Y fY):eS (s.nO ss).2.2:=by
 unfold cd.nO
 split
 ·exact HC
 grind [bi6]
theorem Su:∀(l:Y (ca×ca)) (s:cd),eS (Lx l s).2
 |[],_=>⟨Int.le_refl 0,show(0:ae)<=200 by decide⟩
 |x::r,s=>by
  unfold Lx;split
  ·exact Su r s
  ·split
   ·exact Ss _ _
   ·exact Su r _
theorem HD(x:WD):eS x.settle.2:=by
 unfold WD.settle
 split
 ·exact HC
 grind [Ss]
theorem Us(x:WD):eS x.sync.2:=by
 unfold WD.sync
 split
 ·exact HC
 grind [HD]
theorem O5(x:WD):eS x.close.2:=Us x
theorem aO5(x:WD):eS x.begin.2:=by
 grind [WD.begin,HD,O3]
theorem bw4(x:WD)(p:Place):eS (WD.Eg x p).2.2:=by
 unfold WD.Eg
 dsimp only
 split
 ·grind [HD]
 exact Ur
theorem bw5(x:WD)(b:Bs):eS (WD.zK x b).2.2:=by
 grind [WD.zK,O4,bw4]
theorem W9(f:nN):eS (dD f):=by
 have hm:∀(l:ae) (k v:Bs) (d:ae),eS (qo l k v d):=by
  intro l k v d;unfold qo;repeat' split
  all_goals exact XJ
 have hf:∀(f:nN) (e:ae) (r:ai) (g:nN),eS e->eS (wj f e r g):=by
  intro f e r g he;unfold wj;repeat' split
  all_goals first|exact he|exact XJ
 unfold dD;split
 ·split
  ·exact HC
  grind
 ·split
  ·split
   ·exact HC
   grind
  ·split
   ·exact hf _ _ _ _ XJ
   ·exact HC
theorem bO5(x:WD)(r:Rec):eS (WD.put x r).2.2:=by
 unfold WD.put
 split
 ·exact HC
 grind [W9,aO5,bw5]
theorem Xa:eS (lF s p).2.2:=by
 unfold lF;split
 ·exact HC
 ·dsimp only
  split
  ·grind [bw2]
  exact Ur
theorem bO6(d:fu)(l:Y Seen):eS (d.add l).2:=by
 unfold fu.add;split<;>exact XJ
theorem O6:(lF s p).2.1.val.length<=2048:=by
 unfold lF;split
 ·exact bp _
 ·dsimp only;split
  ·exact bp _
  ·split
   ·exact bp _
   ·rename_i h;have h0:(cX (s.read (gU 1 p.sE).1 p.at_ p.len).2.1 0).2.2=0:=bw;exact(j' (tB _ _ h0)).2.2.1
theorem HE{s:cd}(h:s.ok)(p:Place):mL s (lF s p).1 0:=by
 grind [lF,mL.refl,aN7]
structure zZ(s:gW)(N:ab):Prop where
 k:s.ok N
 pl:s.dir.pl
 cf:s.R5
theorem zZ.mono{s:gW}{M:ab}(h:zZ s N)(hm:N<=M):zZ s M:=⟨h.k.mono hm,h.pl,h.cf⟩
theorem BC:Ek Place.zero:=⟨by decide,by decide⟩
theorem Ut{b:Bs}(h:x.1.size<=1060000)(hb:b.length<=6100):Ek (WD.zK x b).2.1:=by
 unfold WD.zK;dsimp only;split
 ·exact BC
 ·unfold WD.Eg
  dsimp only
  have hs:(x.1.hit (x.2.append (iG x.1) b).2).size=x.1.size:=U
  grind [BC,Ek]
theorem bw6(h:x.1.lZ)(r:Rec):Ek (WD.put x r).2.1:=by
 unfold WD.put;split
 ·exact BC
 ·split
  ·exact BC
  ·rename_i hf;have hb:=oB (gv r) (by simpa using hf);dsimp only;split
   ·split
    ·exact BC
    ·exact Ut (x.zL h).1.sz hb
   ·exact Ut h.sz hb
theorem O7{x:gW}(h:zZ x N)(hd:d.ok)(r0:Rec):zZ (x.write d r0).1.1 (N+1)/\mL d (x.write d r0).1.2 1/\eS (x.write d r0).2:=by
 have hk:=Af h.k d r0
 refine⟨⟨hk.1,?_,?_⟩,?_,?_⟩
 ·unfold gW.write;dsimp only;split
  ·exact h.pl
  ·exact LJ h.pl λs hs=>by rw[cK.1 hs];exact bw6 h.k.wr _
 ·unfold gW.write;dsimp only;split<;>exact h.cf
 ·have:=bw1 (x:=(x.wr,d)) hd ⟨x.last+1,r0.kind,r0.key,r0.val⟩
  grind [gW.write]
 grind [gW.write,bO5,bO6]
theorem O8(x:gW)(n:ab):eS (x.writes n):=by
 unfold gW.writes
 split
 ·(constructor<;>decide)
 ·split<;>(constructor<;>decide)
theorem ER{x:gW}(h:zZ x N)(hd:d.ok)(k v:Bs):zZ (x.put d k v).1.1 (N+1)/\mL d (x.put d k v).1.2 1/\eS (x.put d k v).2:=by
 have h0:∀e:ae,eS e->zZ x (N+1)/\mL d d 1/\eS e:=λe he=>⟨h.mono bw,(mL.refl hd).mono bw,he⟩;unfold gW.put;split
 ·exact ap2
 ·split
  ·exact ap3
  ·split
   ·exact h0 152 XJ
   grind [O7,O8]
theorem O9:∀(w:Y Bs) (x:gW) (d:cd) (e:ae) (N:ab),zZ x N->d.ok->eS e->zZ (u6 w x d e).1.1 (N+w.length)/\mL d (u6 w x d e).1.2 w.length/\eS (u6 w x d e).2
 |[],x,d,e,N,h,hd,he=>⟨h,mL.refl hd,he⟩
 |k::r,x,d,e,N,h,hd,he=>by
  unfold u6;split
  ·exact⟨h.mono dW,(mL.refl hd).mono dW,he⟩
  ·obtain⟨a1,a2,a3⟩:=O7 h hd ⟨0,2,k,[]⟩;obtain⟨b1,b2,b3⟩:=O9 r _ _ _ _ a1 a2.ok a3;refine⟨b1.mono bQ,(a2.trans b2).mono bQ,b3⟩
theorem vf{x:gW}(h:zZ x N)(hd:d.ok)(ks:Y Bs):zZ (x.delete d ks).1.1 (N+ks.length)/\mL d (x.delete d ks).1.2 ks.length/\eS (x.delete d ks).2:=by
 have h0:∀e:ae,eS e->zZ x (N+ks.length)/\mL d d ks.length/\eS e:=λe he=>⟨h.mono bw,(mL.refl hd).mono bw,he⟩;unfold gW.delete;split
 ·exact ap2
 ·split
  ·exact ap3
  ·rename_i w hw;have hl:=OI x ks [] w hw;rw[dU,bT]at hl;obtain⟨a,b,c⟩:=O9 w x d _ N h hd (O8 x w.length);exact⟨a.mono bw,b.mono hl,c⟩
theorem BD{x:gW}(hd:d.ok)(k:Bs):mL d (x.get d k).1 0/\eS (x.get d k).2.2.2/\(x.get d k).2.1.length<=2048:=by
 have h0:∀e:ae,eS e->mL d d 0/\eS e/\([]:Bs).length<=2048:=by grind [mL.refl]
 unfold gW.get;split
 ·exact ap2
 ·split
  ·exact ap3
  ·split
   ·exact h0 0 XJ
   ·dsimp only
    split
    ·exact⟨HE hd _,by constructor<;>first|decide|(dsimp only;decide),bp _⟩
    grind [HE,Xa,O6]
theorem BE{x:gW}(h:zZ x N)(hd:d.ok):zZ (x.sync d).1.1 N/\mL d (x.sync d).1.2 0/\eS (x.sync d).2:=by
 have hg:=WD.JQ (x.wr,d) h.k.wr;unfold gW.sync;split
 ·exact ap4
 ·split
  ·exact ap4
  ·exact⟨⟨⟨hg,h.k.dir,h.k.sum⟩,h.pl,h.cf⟩,O2 (x:=(x.wr,d)) hd,Us _⟩
theorem yq{x:gW}(h:zZ x N)(hd:d.ok):zZ (x.close d).1.1 N/\mL d (x.close d).1.2 0/\eS (x.close d).2:=by
 have hg:=yJ (x.wr,d) h.k.wr;unfold gW.close;split
 ·exact ap4
 ·split
  ·exact⟨⟨⟨h.k.wr,h.k.dir,h.k.sum⟩,h.pl,h.cf⟩,mL.refl hd,by constructor<;>first|decide|(dsimp only;decide)⟩
  ·exact⟨⟨⟨hg,h.k.dir,h.k.sum⟩,h.pl,h.cf⟩,J1 (x:=(x.wr,d)) hd,O5 _⟩
theorem BF(x:gW):∀(ks:Y Bs) (d:cd),d.ok->mL d (ll x ks d).2 0/\(ll x ks d).1.length<=ks.length/\∀y∈(ll x ks d).1,y.1∈ks/\y.2.length<=2048
 |[],d,h=>by grind [mL.refl,ll]
 |k::r,d,h=>by
  obtain⟨g1,g2,g3⟩:=BD (x:=x) h k;obtain⟨a1,a2,a3⟩:=BF x r _ g1.ok;unfold ll;split
  ·refine⟨g1.trans a1,by grind,λy hy=>?_⟩
   grind
  ·exact⟨g1.trans a1,by grind,λy hy=>⟨by grind,(a3 y hy).2⟩⟩
end
end Go.Proofs
