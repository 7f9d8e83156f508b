/- A part of the proof of LabPlays. -/
import Derived.Test.YtcicblljnenhoaaGreatDoorRows
import Derived.Test.YtcicblljnenhoaaGreatDoorQB
open Array renaming getElem?_eq_some_iff->fB,getElem?_modify->fW,getElem?_toList->eE
open Bool renaming false->aQ,false_eq_true->di,true->aP
open Go renaming Addr->aX,Ending->aZ,Frame->bc,Oper->aW,Operand->aY,Program->aT,Value->aR,World->aV,execOp->aU
open Go.Instr renaming checkKey->iI
open Int renaming toNat_natCast->gS
open Go.IntKind renaming bits->iM,i64->eu,signed->jX,u32->fi,u64->ee,u8->dS,wrap->jm
open Go.Lib renaming compareBytes->dY,countByte->cZ,fields->fy,indexByte->dT,itoa->ib
open List renaming Perm.cons->iJ,Perm.swap->fM,append_assoc->cB,append_nil->bj,cons_append->bh,drop_eq_getElem_cons->bP,drop_of_length_le->cx,drop_zero->gx,filterMap_cons->fZ,findIdx?_eq_some_iff_getElem->cA,flatMap_cons->ei,getElem?_eq_getElem->bX,getElem?_map->eX,getElem_map->gG,getElem_mem->bE,length->eP,length_append->bK,length_cons->bL,length_map->bF,length_nil->dU,length_pos_iff->gL,length_set->fJ,length_take->dG,map_append->dx,map_congr_left->cY,map_cons->bN,map_map->dK,map_nil->jo,map_set->fL,mem_append->du,mem_cons->cW,mem_filter->eM,mem_map->cu,mem_singleton->cK,nil_append->bk,nodup_append->fN,nodup_cons->gy,perm_append_comm->cH,perm_middle->gF,replicate->cQ,sum_cons->fS,take_add_one->cg,take_append_drop->dV,take_length->bV,take_of_length_le->bI,take_succ_eq_append_getElem->dO
open Nat renaming add_mul->ic,blt->bM,le_add_right->bW,le_of_ble_eq_true->bH,le_refl->bz,le_trans->bo,mul_le_mul_right->eB,zero_add->bT,zero_le->bp
open Option renaming getD_some->dz,map_eq_some_iff->cz,map_some->cO,none->aO,some->aN,some.inj->fo,some.injEq->gR
open Go.Result renaming andThen->jq
open Go.Sem renaming run->gz,run_bind->cb
open Go.Proofs.Tryz renaming prog->be,underlying3->gE,underlying9->gD
open UInt32 renaming ofNat->iN,toNat_inj->fk
open UInt64 renaming toNat_inj->iX
open UInt8 renaming ofNat->cV
open Go.Value renaming agg->iD,int->gf
open Go.World renaming cell?->gl,cell?_alloc_lt->fO
open _root_ renaming Array->ar,Bool->ai,ByteArray->aJ,DecidableEq->aG,Int->ae,List->Y,Nat->ab,Option->ah,String->aC,UInt32->av,UInt64->az,UInt8->au,Unit->aA,absurd->aD,congrArg->aH,decide_eq_false->aM,decide_eq_true->aK,if_false->aI,if_neg->aj,if_pos->ao,inferInstance->ax
set_option linter.all false
set_option maxHeartbeats 4000000
namespace Go.Proofs
open Go.Sl
set_option maxRecDepth 8000
section
variable{name:Bs}{cc:ah (ar aW×Y aW)}{R:aZ->Y bG->Prop}{files:Y (Bs×cN)}{H F:Y bG}{E:Env}{dq:ae}{f:cN}{right:ai}{O:de}{k:Kt}(xs:Bs)(G:dA)(a:ah aX)(D M:ab)(h:DH)
instance:ze be 75 (.pointer aO):=⟨by kernel_rfl⟩
abbrev qt:=Y (Bs×ab×cN)
abbrev ft(fs:qt):Y (Bs×aR):=fs.map λx=>(x.1,bu x.2.1)
def lK(fs:qt)(name:Bs):ah (ab×cN):=(fs.find? (·.1=name)).map (·.2)
def pv(o:ah (ab×cN)):ah aX:=o.map λx=>⟨x.1,0,aO⟩
theorem xv(fs:qt)(name:Bs):(gM (ft fs) name).getD (.pointer aO)=.pointer (pv (lK fs name)):=by
 unfold gM lK pv ft;rw[List.find?_map];have e:((λx:Bs×aR=>decide (x.1=name))∘λx:Bs×ab×cN=>(x.1,bu x.2.1))=λx=>decide (x.1=name):=by funext x;rfl
 exact aX9
def ny(h:DH)(fs:qt)(name:Bs)(right:ai):ah (ab×cN)×ae:=
 if h.down=aP then(aO,75)else if ¬(eO name=aP/\right=aP)then(aO,70)else
 match lK fs name with
 |none=>(aO,71)
 |some x=>(aN x,0)
theorem sX(fs:qt)(name:Bs)(right:ai):
 TR be G 187 #[bu D,bn name,.bool right] [bx D 74 (h.cs M),mp bn M (ft fs)] (dC λv B=>v=.tuple #[.pointer (pv (ny h fs name right).1),.int .i64 (ny h fs name right).2]/\B=[bx D 74 (h.cs M),mp bn M (ft fs)]):=by
 refine jy U λb O hb hG=>?_
 have out:∀{N vs k H F} (p:ah (ab×cN)) (e:ae),ny h fs name right=(p,e)->lk vs 6=aN (.pointer (pv p))->lk vs 7=aN (.int .i64 e)->ES H [bx D 74 (h.cs M),mp bn M (ft fs)] F->X be b O aO (.it (.code .ret::k)) ⟨N,vs,[]⟩ H (dC λv B=>v=.tuple #[.pointer (pv (ny h fs name right).1),.int .i64 (ny h fs name right).2]/\B=[bx D 74 (h.cs M),mp bn M (ft fs)]):=by
  intro N vs k H F p e he h1 h2 h3;exact aW2
 have e0:ny h fs name right=if h.down=aP then((aO,75):ah (ab×cN)×ae)else if ¬(eO name=aP/\right=aP)then(aO,70)else match lK fs name with
  |none=>((aO,71):ah (ab×cN)×ae)
  |some x=>((aN x,0):ah (ab×cN)×ae):=U
 refine xS ?_
 refine tP name U U U U ?_
 rw[xv]
 refine xB ?_ ?_<;>intro h1
 ·rw[ao h1]at e0;refine xS ?_;exact out aO 75 e0 U U ax
 ·rw[aj bQ]at e0;refine xT 25 ?_ ?_<;>intro h2
  ·exact aY0
  ·have h2:eO name=aP:=bQ;refine xB ?_ ?_<;>intro h3
   ·exact aY0
   ·have h3:right=aP:=bQ;rw[aj (by simp[h2,h3])]at e0;refine xS ?_;cases hd:lK fs name with
    |none=>
     rw[hd]at e0;dsimp only[pv,Option.map_none]at e0 ⊢;refine xS ?_;exact out aO 71 e0 U U ax
    |some x=>
     rw[hd]at e0;dsimp only[pv,cO]at e0 ⊢;refine xS ?_;exact out (aN x) 0 e0 U U ax
def zf(h:DH):DH:={h with dq:=eu.wrap (h.dq+1),iu:=h.iu - 1,fK:=h.fK - 1}
def aA9(h:DH):ab:=if h.fK=1 then(if h.done=aP then 1 else 2)else if h.iu=1 then 3 else 0
def aB0(h:DH):ae:=if h.fK=1 then 75 else if h.iu=1 then 74 else 0
theorem Zu(fd:ab)[CF be fd](cap:Y aR)(S S':bG)(u:ab)(hb1:h.iu<=9223372036854775807)(S9:h.fK<=9223372036854775807)(qL:TR be G fd cap.toArray [bx D 74 (DH.cs M (zf h)),S] (dC λv B=>v=.tuple #[]/\B=[bx D 74 (DH.cs M {zf h with used:=u}),S'])):
 TR be G 188 #[bu D,.func (.func fd) #[] cap.toArray] [bx D 74 (h.cs M),S] (dC λv B=>v=.int .i64 (aB0 h)/\B=(
  match aA9 h with
  |0=>[bx D 74 (DH.cs M {zf h with used:=u}),S']
  |1=>[bx D 74 (DH.cs M {zf h with used:=u,down:=aP}),S']
  |2=>[bx D 74 (DH.cs M {zf h with down:=aP}),S]
  |_=>[bx D 74 (DH.cs M (zf h)),S])):=by
 refine bZ U λb O hb hG=>?_
 obtain⟨cp,used,dq,fa,ba,dn,dw⟩:=h
 dsimp only[DH.cs,zf,aA9,aB0]at hb1 S9 qL ⊢
 refine xS ?_
 refine IF U U U U U (xS ?_)
 show X _ _ _ _ _ _ _ _
 refine ph [0,1,2,4,5,6] [] ?_
 refine xL [0,1,2,4,5,6] ?_
 refine xH (Zs G D M ⟨cp,used,eu.wrap (dq+1),fa,ba,dn,dw⟩ hb1) ?_
 dsimp only[DH.cs]
 refine xH (Zt G D M ⟨cp,used,eu.wrap (dq+1),fa - 1,ba,dn,dw⟩ S9) ?_
 dsimp only[DH.cs]
 refine yB (ba=1) (¬ba=1) ?_ ?_<;>intro h1
 ·subst h1;rw[ao U,ao U];refine xS ?_;cases dn
  ·exact aY1
  ·exact aY2
 ·rw[aj h1,aj h1];refine yB (fa=1) (¬fa=1) ?_ ?_<;>intro h2
  ·subst h2;rw[ao U,ao U];exact aY1
  ·rw[aj h2,aj h2];exact aY2
theorem Kl{P:aT}{b:bc}{α:Type}{Re:Rp α}{sz:ab}{xs:Y α}[hf:BQ H a Re sz xs](h:X P b O cc k E (dp Re sz a xs::H) R):X P b O cc k E H R:=by
 obtain⟨rest,hr⟩:=hf.out
 exact X.dE (js hr λ_ h=>h) h
def aY3(fb:ab)(f:cN):bG:=ex λq:ah aX×ab=>[bx fb 78 [.slice q.1 f.data.length q.2,.int .i64 f.last],own 5 1 q.1 f.data.length q.2 (f.data.map gT)]
def fA(x:Bs×ab×cN):bG:=aY3 x.2.1 x.2.2
def oU(fs:qt):Y (Bs×cN):=fs.map λx=>(x.1,x.2.2)
def Ij(M:ab)(files:Y (Bs×cN)):bG:=ex λfs:qt=>[pu (oU fs=files),mp bn M (ft fs),dZ (fs.map fA)]
structure cd where
 cap:ab
 used:ab
 files:Y (Bs×cN)
 iu:ab
 fK:ab
 done:ai
 down:ai
def iq(l:Y (Bs×cN)):ab:=(l.map λx=>x.2.data.length).sum
structure cd.ok(s:cd):Prop where
 nd:(s.files.map (·.1)).Nodup
 yA:s.used=iq s.files
 le:s.used<=s.cap
 cap:s.cap<=4194304
 fa:s.iu<=9223372036854775807
 ba:s.fK<=9223372036854775807
 last:∀x∈s.files,x.2.last<=x.2.data.length
 name:∀x∈s.files,eO x.1=aP
def fP(s:cd)(dq:ae):DH:=⟨s.cap,s.used,dq,s.iu,s.fK,s.done,s.down⟩
def lz(D:ab)(s:cd):bG:=ex λq:ab×ae=>[pu s.ok,bx D 74 ((fP s q.2).cs q.1),Ij q.1 s.files]
def cd.qu(s:cd):cd:={s with iu:=s.iu - 1,fK:=s.fK - 1}
def cd.jg(s:cd)(files:Y (Bs×cN))(u:ab):cd×ae:=
 if s.fK=1 then(if s.done=aP then({s.qu with files:=files,used:=u,down:=aP},75)else({s.qu with down:=aP},75))
 else if s.iu=1 then(s.qu,74)else({s.qu with files:=files,used:=u},0)
theorem cd.ok.qu{s:cd}(h:s.ok):s.qu.ok:=⟨h.nd,h.yA,h.le,h.cap,bo (Nat.sub_le _ _) h.fa,bo (Nat.sub_le _ _) h.ba,h.last,h.name⟩
theorem cd.ok.down{s:cd}(h:s.ok)(d:ai):({s with down:=d}:cd).ok:=⟨h.nd,h.yA,h.le,h.cap,h.fa,h.ba,h.last,h.name⟩
theorem cd.ok.jg{s:cd}(h:s.ok){u:ab}(h2:({s with files:=files,used:=u}:cd).ok):(s.jg files u).1.ok:=by
 unfold cd.jg;have h3:({s.qu with files:=files,used:=u}:cd).ok:=⟨h2.nd,h2.yA,h2.le,h2.cap,bo (Nat.sub_le _ _) h.fa,bo (Nat.sub_le _ _) h.ba,h2.last,h2.name⟩;split
 ·split
  ·exact h3.down aP
  ·exact h.qu.down aP
 ·split
  ·exact h.qu
  ·exact h3
theorem bS.ej{D M:ab}{s:cd}(eI:s.ok){S:bG}(hS:bS [S] [Ij M s.files]):bS [bx D 74 ((fP s dq).cs M),S] [lz D s]:=by
 refine bS.trans ?_ (iY (f:=λq:ab×ae=>[pu s.ok,bx D 74 ((fP s q.2).cs q.1),Ij q.1 s.files]) (M,dq) []);exact(bS.cons _ hS).trans (fE eI _)
theorem uL(s:cd)(dq:ae)(fd:ab)[CF be fd](cap:Y aR)(S S':bG)(files:Y (Bs×cN))(u:ab)(eI:s.ok)(hok':({s with files:=files,used:=u}:cd).ok)(hS:bS [S] [Ij M s.files])(Vf:bS [S'] [Ij M files])(qL:TR be G fd cap.toArray [bx D 74 (DH.cs M (zf (fP s dq))),S] (dC λv B=>v=.tuple #[]/\B=[bx D 74 (DH.cs M {zf (fP s dq)with used:=u}),S'])):
 TR be G 188 #[bu D,.func (.func fd) #[] cap.toArray] [bx D 74 ((fP s dq).cs M),S] (dC λv B=>v=.int .i64 (s.jg files u).2/\B=[lz D (s.jg files u).1]):=by
 refine(Zu G D M (fP s dq) fd cap S S' u eI.fa eI.ba qL).eY (bS.refl _) ?_
 rintro e B hB
 cases e with
 |panicked ch=>exact hB.elim
 |outgrown=>exact hB.elim
 |returned v=>
  obtain⟨rfl,rfl⟩:=hB;have h4:=eI.jg hok';unfold aA9 aB0;unfold cd.jg at h4 ⊢;by_cases h1:s.fK=1
  ·rw[ao h1]at h4 ⊢;rw[ao (show(fP s dq).fK=1 from h1),ao (show(fP s dq).fK=1 from h1)];by_cases h2:s.done=aP
   ·rw[ao h2]at h4 ⊢;rw[ao (show(fP s dq).done=aP from h2)];exact⟨_,⟨U,U⟩,bS.ej (s:={s.qu with files:=files,used:=u,down:=aP}) (dq:=eu.wrap (dq+1)) h4 Vf⟩
   exact aY4
  ·rw[aj h1]at h4 ⊢;rw[aj (show ¬(fP s dq).fK=1 from h1),aj (show ¬(fP s dq).fK=1 from h1)];by_cases h2:s.iu=1
   ·exact aY5
   ·rw[aj h2]at h4 ⊢;rw[aj (show ¬(fP s dq).iu=1 from h2),aj (show ¬(fP s dq).iu=1 from h2)];exact⟨_,⟨U,U⟩,bS.ej (s:={s.qu with files:=files,used:=u}) (dq:=eu.wrap (dq+1)) h4 Vf⟩
theorem X.ej{b:bc}{s:cd}[hf:FK H lz D s F](h:∀(M:ab) (dq:ae) (fs:qt),s.ok->oU fs=s.files->X be b O cc k E (bx D 74 ((fP s dq).cs M)::mp bn M (ft fs)::dZ (fs.map fA)::F) R):X be b O cc k E H R:=
 j9 λw hs=>by
  obtain⟨⟨M,dq⟩,h1⟩:=jB (hs.dE hf.out);obtain⟨eI,h2⟩:=lR h1;have h3:=h2.dE (eo _ _ _);obtain⟨fs,h4⟩:=jB h3;obtain⟨h5,h6⟩:=lR h4;refine⟨_,?_,h M dq fs eI h5⟩;exact h6.dE (ew (by
   refine List.Perm.trans (iJ _ (fM _ _ _)) (fM _ _ _)))
theorem ko{M:ab}{fs:qt}(h:oU fs=files)(F:Y bG):bS (mp bn M (ft fs)::dZ (fs.map fA)::F) (Ij M files::F):=
 (fE h _).trans (iY (f:=λfs:qt=>[pu (oU fs=files),mp bn M (ft fs),dZ (fs.map fA)]) fs F)
theorem rH{fs:qt}(h:lK fs name=aO):name∉fs.map (·.1):=by
 grind [lK,Option.map_eq_none_iff]
theorem kW{name:Bs}{x:ab×cN}:∀{fs:qt},lK fs name=aN x->∃pre post,fs=pre++(name,x)::post/\name∉pre.map (·.1)
 |[],h=>by cases h
 |y::r,h=>by
  unfold lK at h;rw[List.find?_cons]at h;by_cases hy:y.1=name
  ·simp only[hy,decide_true,cO,gR]at h;exact⟨[],r,by grind,by simp⟩
  ·simp only[hy,decide_false]at h
   obtain⟨pre,post,h1,h2⟩:=kW (fs:=r) (by unfold lK;exact h)
   grind
theorem Tt(pre post:qt)(x:Bs×ab×cN):((pre++x::post).map fA).Perm (fA x::(pre++post).map fA):=by
 simp_all
theorem Da{b:bc}(pre post:qt)(name:Bs)(fb:ab)(f:cN)[hf:FP H (dZ ((pre++(name,fb,f)::post).map fA)) F](h:∀a c,X be b O cc k E (bx fb 78 [.slice a f.data.length c,.int .i64 f.last]::own 5 1 a f.data.length c (f.data.map gT)::dZ ((pre++post).map fA)::F) R):X be b O cc k E H R:=
 j9 λw hs=>by
  have h1:=(hs.dE hf.out).dE (iR _ F)
  have h2:=h1.dE (je (ew (Tt pre post (name,fb,f))) F)
  have h3:=h2.dE (bS.cons (fA (name,fb,f)) (iE ((pre++post).map fA) F))
  obtain⟨⟨a,c⟩,h4⟩:=jB h3
  grind
theorem pz{pre post:qt}{name:Bs}{fb:ab}{f:cN}{a:ah aX}{c:ab}(F:Y bG):
 bS (bx fb 78 [.slice a f.data.length c,.int .i64 f.last]::own 5 1 a f.data.length c (f.data.map gT)::dZ ((pre++post).map fA)::F) (dZ ((pre++(name,fb,f)::post).map fA)::F):=by
 have h1:=iY (f:=λq:ah aX×ab=>[bx fb 78 [.slice q.1 f.data.length q.2,.int .i64 f.last],own 5 1 q.1 f.data.length q.2 (f.data.map gT)]) (a,c) (dZ ((pre++post).map fA)::F)
 refine bS.trans h1 ?_
 refine(bS.cons (fA (name,fb,f)) (iR ((pre++post).map fA) F)).trans ?_
 refine bS.trans ?_ (iE _ F)
 exact je (ew (Tt pre post (name,fb,f)).symm) F
def oV(l:Y (Bs×cN))(name:Bs)(f:cN):Y (Bs×cN):=l.map λx=>if x.1=name then(x.1,f)else x
def kO(l:Y (Bs×cN))(name:Bs):ah cN:=(l.find? (·.1=name)).map (·.2)
theorem wu(fs:qt)(name:Bs):(lK fs name).map (·.2)=kO (oU fs) name:=by
 unfold lK kO oU;rw[List.find?_map];have e:((λx:Bs×cN=>decide (x.1=name))∘λx:Bs×ab×cN=>(x.1,x.2.2))=λx=>decide (x.1=name):=by funext x;rfl
 exact aX9
theorem FT{pre post:Y (Bs×cN)}{f':cN}(h:((pre++(name,f)::post).map (·.1)).Nodup):oV (pre++(name,f)::post) name f'=pre++(name,f')::post:=by
 rw[dx,bN]at h
 obtain⟨h1,h2,h3⟩:=fN.1 h
 obtain⟨h4,h5⟩:=gy.1 h2
 unfold oV
 rw[dx,bN,ao U]
 have e1:∀(l:Y (Bs×cN)),name∉l.map (·.1)->(l.map λx=>if x.1=name then(x.1,f')else x)=l:=by
  intro l hl
  conv=>rhs;rw[<-List.map_id l]
  grind [cY]
 grind
def cd.find(s:cd)(name:Bs)(right:ai):ah cN×ae:=
 if s.down=aP then(aO,75)else if ¬(eO name=aP/\right=aP)then(aO,70)else
 match kO s.files name with
 |none=>(aO,71)
 |some x=>(aN x,0)
theorem qv{s:cd}{fs:qt}(h:oU fs=s.files)(dq:ae)(name:Bs)(right:ai):s.find name right=((ny (fP s dq) fs name right).1.map (·.2),(ny (fP s dq) fs name right).2):=by
 grind [cd.find,ny,wu,fP]
theorem fh(e sz:ab)(F:Y bG):bS F (own e sz aO 0 0 []::F):=λ_ o hs=>⟨gI,o,ef _,dQ _,.refl _,⟨by simp,.inl ⟨U,U⟩⟩,hs⟩
theorem IM{fb:ab}{a:ah aX}{c:ab}(F:Y bG):bS (bx fb 78 [.slice a f.data.length c,.int .i64 f.last]::own 5 1 a f.data.length c (f.data.map gT)::F) (aY3 fb f::F):=
 iY (f:=λq:ah aX×ab=>[bx fb 78 [.slice q.1 f.data.length q.2,.int .i64 f.last],own 5 1 q.1 f.data.length q.2 (f.data.map gT)]) (a,c) F
theorem L9(fs:qt)(x:Bs×ab×cN)(F:Y bG):bS (fA x::dZ (fs.map fA)::F) (dZ ((fs++[x]).map fA)::F):=by
 refine(bS.cons _ (iR _ F)).trans (bS.trans ?_ (iE _ F));show bS ((fA x::fs.map fA)++F) _;exact aY6
theorem uM{h:DH}{fs:qt}(h0:(ny h fs name right).2=0):eO name=aP/\right=aP/\∃x,(ny h fs name right).1=aN x/\lK fs name=aN x:=by
 grind [ny]
theorem Zv{h:DH}{fs:qt}(h0:(ny h fs name right).2=71):eO name=aP/\lK fs name=aO:=by
 grind [ny]
abbrev nf(name:Bs)(fb:ab):Bs×ab×cN:=(name,fb,⟨[],0⟩)
def cd.create(s:cd)(name:Bs):cd×ae:=
 if(s.find name aP).2=0 then(s,72)else if(s.find name aP).2=71 then s.jg (s.files++[(name,(⟨[],0⟩:cN))]) s.used else(s,(s.find name aP).2)
theorem Zw{fs:qt}(h:lK fs name=aO)(fb:ab):iT (ft fs) name (bu fb)=ft (fs++[nf name fb]):=by
 have h1:=rH h
 grind [nr]
theorem Qz(t2 t3:ab)(h:DH)(fs:qt)(name:Bs)(hn:lK fs name=aO):
 TR be G 400 #[bu t2,bu t3] [bx D 74 (h.cs M),dZ [bx t2 28 [bu D],bx t3 9 [bn name],mp bn M (ft fs),dZ (fs.map fA)]]
  (dC λv B=>v=.tuple #[]/\B=[bx D 74 (h.cs M),ex λfb:ab=>[mp bn M (ft (fs++[nf name fb])),dZ ((fs++[nf name fb]).map fA)]]):=by
 refine bZ U λb O hb hG=>?_
 refine mc [bx t2 28 [bu D],bx t3 9 [bn name],mp bn M (ft fs),dZ (fs.map fA)] ?_
 dsimp only[bh,bk,bj]
 show X _ _ _ _ _ _ _ _
 refine xS ?_
 refine fU 6 [0,1,4] ?_
 refine xL [0,1,2,3,4,5] ?_
 refine xP ?_
 intro fb
 refine rM name dy U U U U ?_
 rw[Zw hn]
 refine xS ?_
 refine X.fin hb (.tmps U) ⟨_,⟨U,U⟩,?_⟩
 refine bS.trans (bA (A:=[bx fb 78 [.slice aO 0 0,.int .i64 0],bx D 74 (h.cs M),mp bn M (ft (fs++[nf name fb])),dZ (fs.map fA)])) ?_
 refine bS.trans (bS.cons _ (fh 5 1 _)) ?_
 refine bS.trans (IM (f:=⟨[],0⟩) _) ?_
 refine bS.trans (eo _ _ _) (bS.cons _ ?_)
 refine bS.trans (eo _ _ _) ?_
 refine bS.trans (bS.cons _ (L9 fs (nf name fb) [])) ?_
 exact iY (f:=λfb:ab=>[mp bn M (ft (fs++[nf name fb])),dZ ((fs++[nf name fb]).map fA)]) fb []
theorem XN{M:ab}{ι:Type}(g:ι->qt)(h:∀i,oU (g i)=files):bS [ex λi:ι=>[mp bn M (ft (g i)),dZ ((g i).map fA)]] [Ij M files]:=by
 rintro r o ⟨o1,o2,hd,h1,h2,⟨i,hi⟩,hs⟩;have h3:=ko (M:=M) (h i) [] r o1 hi;exact kx _ (.refl _) h1 h3
theorem cd.ok.add{s:cd}(h:s.ok)(hn:name∉s.files.map (·.1))(hname:eO name=aP):({s with files:=s.files++[(name,⟨[],0⟩)],used:=s.used}:cd).ok:=by
 refine⟨?_,?_,h.le,h.cap,h.fa,h.ba,?_,?_⟩
 ·simp only[dx,bN,jo]
  rw[fN]
  refine⟨h.nd,by simp,?_⟩
  grind
 ·have:=h.yA
  grind [iq]
 ·intro x hx
  rcases du.1 hx with hx|hx
  ·exact h.last x hx
  grind
 ·intro x hx
  rcases du.1 hx with hx|hx
  ·exact h.name x hx
  grind
theorem tX(fs:qt):(oU fs).map (·.1)=fs.map (·.1):=by unfold oU;rw[dK];rfl
theorem Vg(s:cd)(name:Bs):
 TR be G 309 #[bu D,bn name] [lz D s] (dC λv B=>v=.int .i64 (s.create name).2/\B=[lz D (s.create name).1]):=by
 refine bZ U λb O hb hG=>?_
 refine X.ej D λM dq fs eI kl=>?_
 refine xP ?_
 intro t2
 refine xP ?_
 intro t3
 refine xI (sX G D M (fP s dq) fs name aP) ?_
 have nC:=qv kl dq name aP
 have h0:=uM (h:=fP s dq) (fs:=fs) (name:=name) (right:=aP)
 have h71:=Zv (h:=fP s dq) (fs:=fs) (name:=name) (right:=aP)
 dsimp only[bh,bk,bj]
 generalize ny (fP s dq) fs name aP=r at*
 obtain⟨p,e⟩:=r
 dsimp only at nC h0 h71 ⊢
 have e0:s.create name=if e=0 then(s,72)else if e=71 then s.jg (s.files++[(name,(⟨[],0⟩:cN))]) s.used else(s,e):=by
  unfold cd.create;rw[nC]
 have close:∀{H F:Y bG},ES H [bx D 74 ((fP s dq).cs M),mp bn M (ft fs),dZ (fs.map fA)] F->bS H [lz D s]:=by
  intro H F hE;refine(hE.out.trans (ia _ F)).trans ?_;exact(bS.cons _ (ko kl [])).trans (bS.ej eI (bS.refl _))
 refine xB ?_ ?_<;>intro h1
 ·rw[ao bQ]at e0;exact aY7
 ·rw[aj bQ]at e0;refine xB ?_ ?_<;>intro h2
  ·have h2:e=71:=bQ;rw[ao h2]at e0;have hn:=h71 h2;have hnn:=rH hn.2;refine xS ?_;refine hU [bx t2 28 [bu D],bx t3 9 [bn name],mp bn M (ft fs),dZ (fs.map fA)] ?_;refine cP (uL G D M s dq 400 [bu t2,bu t3] (dZ [bx t2 28 [bu D],bx t3 9 [bn name],mp bn M (ft fs),dZ (fs.map fA)]) (ex λfb:ab=>[mp bn M (ft (fs++[nf name fb])),dZ ((fs++[nf name fb]).map fA)]) (s.files++[(name,(⟨[],0⟩:cN))]) s.used eI (eI.add bq2 hn.1) ?_ ?_ (Qz G D M t2 t3 _ fs name hn.2)) ?_
   ·exact aY8
   ·exact XN (λfb=>fs++[nf name fb]) λfb=>by grind [oU]
   exact aY9
  ·rw[aj bQ]at e0;exact aY7
theorem FU(n c:ab)(xs:Bs)(hn:xs.length=n)(hs:n<=1000000000000)(h0:a=aO->n=0/\c=0):
 TR be G 24 #[.slice a n c] [dp RB 1 a xs] (dC (ay7 xs)):=by
 refine dH U λb O hb hG=>?_
 cases a with
 |none=>
  obtain⟨rfl,rfl⟩:=h0 U;have:xs=[]:=bQ;subst this;refine xS ?_;exact X.ret hb (.tmps U) ⟨_,⟨aO,0,U,U⟩,(bS.nil _).trans (fh 5 1 [])⟩
 |some a=>
  refine xS ?_;refine PZ U U λbl=>xS ?_;refine jA (zs:=[]) U U U U hn fD λa8 c8=>?_;rw[bk];refine xS ?_;exact cT hb (.tmps U) ⟨a8,c8,U,U⟩
theorem IJ:∀v B,ay7 xs v B->tS B:=by
 rintro v B ⟨a,c,rfl,rfl⟩;exact ax
def cd.append(s:cd)(name:Bs)(ys:Bs):cd×ae:=
 match s.find name aP with
 |(aN f,e)=>if e≠0 then(s,e)else if s.cap - s.used<ys.length then(s,73)else s.jg (oV s.files name ⟨f.data++ys,f.last⟩) (s.used+ys.length)
 |(aO,e)=>(s,e)
theorem tY(a b:Y (Bs×cN)):iq (a++b)=iq a+iq b:=by simp[iq]
theorem nu(x:Bs×cN)(b:Y (Bs×cN)):iq (x::b)=x.2.data.length+iq b:=by simp[iq]
theorem pG(pre post:qt)(name:Bs)(fb:ab)(f:cN):oU (pre++(name,fb,f)::post)=oU pre++(name,f)::oU post:=by simp[oU]
theorem FV(pre post:qt)(name:Bs)(fb:ab)(f f':cN):ft (pre++(name,fb,f)::post)=ft (pre++(name,fb,f')::post):=by simp[ft]
theorem QA(b7 b5 b3:ab)(h:DH)(pre post:qt)(name:Bs)(fb:ab)(f:cN)(a2:ah aX)(m c2:ab)(ys:Bs)(hm:ys.length=m)(h1:f.data.length<=4194304)(h2:m<=4194304)(h3:h.used<=4194304):
 TR be G 310 #[bu b7,bu b5,bu b3] [bx D 74 (h.cs M),dZ [bx b7 75 [bu fb],bx b5 55 [.slice a2 m c2],bx b3 28 [bu D],dp RB 1 a2 ys,mp bn M (ft (pre++(name,fb,f)::post)),dZ ((pre++(name,fb,f)::post).map fA)]]
  (dC λv B=>v=.tuple #[]/\B=[bx D 74 (DH.cs M {h with used:=h.used+m}),dZ [mp bn M (ft (pre++(name,fb,⟨f.data++ys,f.last⟩)::post)),dZ ((pre++(name,fb,⟨f.data++ys,f.last⟩)::post).map fA)]]):=by
 refine jy U λb O hb hG=>?_
 refine mc [bx b7 75 [bu fb],bx b5 55 [.slice a2 m c2],bx b3 28 [bu D],dp RB 1 a2 ys,mp bn M (ft (pre++(name,fb,f)::post)),dZ ((pre++(name,fb,f)::post).map fA)] ?_
 dsimp only[bh,bk,bj]
 refine Da pre post name fb f λa c=>xS ?_
 refine fU 6 [3,0,4] ?_
 refine xL [0,1,2,3,4,5] ?_
 refine xS ?_
 refine jA U U U U hm bw λa8 c8=>xS ?_
 refine fU 7 [5,8,4] ?_
 refine xL [0,1,2,3,4,5,6] ?_
 refine xS ?_
 rw[FV pre post name fb f ⟨f.data++ys,f.last⟩,show((h.used:ae)+(m:ae))=((h.used+m:ab):ae)from by simp]
 refine X.fin hb (.tmps U) ⟨_,⟨U,U⟩,?_⟩
 refine bS.trans (bA (A:=[bx D 74 (DH.cs M {h with used:=h.used+m}),mp bn M (ft (pre++(name,fb,⟨f.data++ys,f.last⟩)::post)),bx fb 78 [.slice a8 (f.data++ys).length c8,.int .i64 f.last],own 5 1 a8 (f.data++ys).length c8 ((f.data++ys).map gT),dZ ((pre++post).map fA)])) ?_
 refine bS.cons _ ?_
 refine bS.trans (bS.cons _ (pz (pre:=pre) (post:=post) (name:=name) (f:=⟨f.data++ys,f.last⟩) [])) ?_
 exact iS _
theorem cd.ok.set{s:cd}(h:s.ok){A B:Y (Bs×cN)}{f':cN}(hf:s.files=A++(name,f)::B)(u:ab)(hu:u+f.data.length=s.used+f'.data.length)(hle:u<=s.cap)(hl:f'.last<=f'.data.length):
 ({s with files:=A++(name,f')::B,used:=u}:cd).ok:=by
 have h1:=h.nd
 have h2:=h.yA
 have h3:=h.last
 have h4:=h.name
 rw[hf]at h1 h2 h3 h4
 refine⟨?_,?_,hle,h.cap,h.fa,h.ba,?_,?_⟩
 ·grind
 ·grind [tY,nu]
 ·intro x hx
  grind
 ·intro x hx
  rcases du.1 hx with hx|hx
  ·grind
  ·rcases cW.1 hx with rfl|hx
   ·exact h4 (name,f) dW
   grind
theorem cd.ok.len{s:cd}(h:s.ok){A B:Y (Bs×cN)}(hf:s.files=A++(name,f)::B):f.data.length<=s.used/\f.last<=f.data.length/\s.used<=4194304:=by
 have h2:=h.yA
 rw[hf,tY,nu]at h2
 have h3:=h.last (name,f) (by rw[hf];simp)
 have:=h.le
 have:=h.cap
 grind
theorem rZ{D M:ab}{s:cd}{fs:qt}(eI:s.ok)(kl:oU fs=s.files)[hE:ES H [bx D 74 ((fP s dq).cs M),mp bn M (ft fs),dZ (fs.map fA)] F]:bS H [lz D s]:=
 (hE.out.trans (ia _ F)).trans ((bS.cons _ (ko kl [])).trans (bS.ej eI (bS.refl _)))
theorem I'{D M:ab}{s:cd}{fs:qt}(eI:s.ok)(kl:oU fs=s.files){p:bG}[hE:ES H [bx D 74 ((fP s dq).cs M),mp bn M (ft fs),dZ (fs.map fA),p] F]:bS H [lz D s,p]:=by
 refine(hE.out.trans (ia _ F)).trans ?_;refine(bS.cons _ (ko kl [p])).trans ?_;exact je (bS.ej eI (bS.refl _)) [p]
theorem Vh(s:cd)(name:Bs)(a2:ah aX)(m c2:ab)(ys:Bs)(hm:ys.length=m)(Ik:m<=1000000000000):
 TR be G 207 #[bu D,bn name,.slice a2 m c2] [lz D s,dp RB 1 a2 ys] (dC λv B=>v=.int .i64 (s.append name ys).2/\B=[lz D (s.append name ys).1,dp RB 1 a2 ys]):=by
 refine jy U λb O hb hG=>?_
 refine X.ej D λM dq fs eI kl=>?_
 refine xP ?_
 intro b3
 refine xP ?_
 intro b5
 refine xI (sX G D M (fP s dq) fs name aP) ?_
 have nC:=qv kl dq name aP
 have h0:=uM (h:=fP s dq) (fs:=fs) (name:=name) (right:=aP)
 dsimp only[bh,bk,bj]
 generalize ny (fP s dq) fs name aP=r at*
 obtain⟨p,e⟩:=r
 dsimp only at nC h0 ⊢
 have tt:=eI.cap
 have hle:=eI.le
 have hcap':(fP s dq).cap<=4194304:=tt
 have hus':(fP s dq).used<=4194304:=bo hle tt
 refine xA ?_
 intro b7
 refine xB ?_ ?_<;>intro h1
 ·have e0:s.append name ys=(s,e):=by
   have h1:e≠0:=by simpa using h1
   unfold cd.append;rw[nC]
   cases p
   ·rfl
   ·exact ao h1
  refine xS ?_
  exact X.ret hb (.tmps U) ⟨_,⟨by rw[e0];rfl,by rw[e0]⟩,I' (M:=M) (dq:=dq) eI kl⟩
 ·have h1:e=0:=by simpa using h1
  obtain⟨vP,_,⟨fb,f⟩,hp,hd⟩:=h0 h1
  subst hp
  subst h1
  obtain⟨pre,post,rfl,_⟩:=kW hd
  have vC:=kl
  rw[pG]at vC
  have hlen:=eI.len vC.symm
  have e1:s.append name ys=if s.cap - s.used<ys.length then(s,73)else s.jg (oV s.files name ⟨f.data++ys,f.last⟩) (s.used+ys.length):=by
   unfold cd.append;rw[nC];rfl
  dsimp only[pv,cO]
  refine xS ?_
  refine fU 13 [3,4,1] ?_
  refine xL [0,1,2,3,4,5,6,7,8,9,10,11,12] ?_
  refine xB ?_ ?_<;>intro h2
  ·have h2:s.cap - s.used<ys.length:=by simp[fP]at h2;omega
   rw[ao h2]at e1
   refine xS ?_
   exact X.ret hb (.tmps U) ⟨_,⟨by rw[e1];rfl,by rw[e1]⟩,I' (M:=M) (dq:=dq) eI kl⟩
  ·have h2:¬s.cap - s.used<ys.length:=by simp[fP]at h2;omega
   rw[aj h2]at e1
   refine xS ?_
   refine Kl a2 ?_
   refine hU [bx b7 75 [bu fb],bx b5 55 [.slice a2 m c2],bx b3 28 [bu D],dp RB 1 a2 ys,mp bn M (ft (pre++(name,fb,f)::post)),dZ ((pre++(name,fb,f)::post).map fA)] ?_
   have ir:oV s.files name ⟨f.data++ys,f.last⟩=oU pre++(name,⟨f.data++ys,f.last⟩)::oU post:=by
    rw[<-vC];exact FT (by rw[vC];exact eI.nd)
   have vD:({s with files:=oV s.files name ⟨f.data++ys,f.last⟩,used:=s.used+ys.length}:cd).ok:=by
    rw[ir];exact eI.set vC.symm _ (by simp;omega) (by omega) (by simp;omega)
   refine cP (uL G D M s dq 310 [bu b7,bu b5,bu b3] _ (dZ [mp bn M (ft (pre++(name,fb,⟨f.data++ys,f.last⟩)::post)),dZ ((pre++(name,fb,⟨f.data++ys,f.last⟩)::post).map fA)]) (oV s.files name ⟨f.data++ys,f.last⟩) (s.used+ys.length) eI vD ?_ ?_ (by rw[hm];exact QA G D M b7 b5 b3 _ pre post name fb f a2 m c2 ys hm (by omega) (by omega) (by show s.used<=_;omega))) ?_
   ·refine(gm _).trans ((bS.drop _ _).trans ((bS.drop _ _).trans ((bS.drop _ _).trans ((bS.drop _ _).trans (ko kl [])))))
   ·exact(gm _).trans (ko (by rw[ir];simp[oU]) [])
   ·rintro v B ⟨rfl,rfl⟩
    rw[<-e1]
    refine xD ?_
    exact xR
def cd.sync(s:cd)(name:Bs):cd×ae:=
 match s.find name aP with
 |(aN f,e)=>if e≠0 then(s,e)else s.jg (oV s.files name ⟨f.data,f.data.length⟩) s.used
 |(aO,e)=>(s,e)
theorem Zz(b5:ab)(h:DH)(pre post:qt)(name:Bs)(fb:ab)(f:cN):
 TR be G 189 #[bu b5] [bx D 74 (h.cs M),dZ [bx b5 75 [bu fb],mp bn M (ft (pre++(name,fb,f)::post)),dZ ((pre++(name,fb,f)::post).map fA)]]
  (dC λv B=>v=.tuple #[]/\B=[bx D 74 (DH.cs M {h with used:=h.used}),dZ [mp bn M (ft (pre++(name,fb,⟨f.data,f.data.length⟩)::post)),dZ ((pre++(name,fb,⟨f.data,f.data.length⟩)::post).map fA)]]):=by
 refine dH U λb O hb hG=>?_
 refine mc [bx b5 75 [bu fb],mp bn M (ft (pre++(name,fb,f)::post)),dZ ((pre++(name,fb,f)::post).map fA)] ?_
 dsimp only[bh,bk,bj]
 refine Da pre post name fb f λa c=>xS ?_
 refine fU 6 [3,0] ?_
 refine xL [0,1,2,3,4,5] ?_
 refine xS ?_
 rw[FV pre post name fb f ⟨f.data,f.data.length⟩]
 refine X.fin hb (.tmps U) ⟨_,⟨U,U⟩,?_⟩
 refine bS.trans (bA (A:=[bx D 74 (DH.cs M {h with used:=h.used}),mp bn M (ft (pre++(name,fb,⟨f.data,f.data.length⟩)::post)),bx fb 78 [.slice a f.data.length c,.int .i64 f.data.length],own 5 1 a f.data.length c (f.data.map gT),dZ ((pre++post).map fA)])) ?_
 refine bS.cons _ ?_
 refine bS.trans (bS.cons _ (pz (pre:=pre) (post:=post) (name:=name) (f:=⟨f.data,f.data.length⟩) [])) ?_
 exact iS _
theorem aB3(s:cd)(name:Bs):
 TR be G 127 #[bu D,bn name] [lz D s] (dC λv B=>v=.int .i64 (s.sync name).2/\B=[lz D (s.sync name).1]):=by
 refine bZ U λb O hb hG=>?_
 refine X.ej D λM dq fs eI kl=>?_
 refine xI (sX G D M (fP s dq) fs name aP) ?_
 have nC:=qv kl dq name aP
 have h0:=uM (h:=fP s dq) (fs:=fs) (name:=name) (right:=aP)
 dsimp only[bh,bk,bj]
 generalize ny (fP s dq) fs name aP=r at*
 obtain⟨p,e⟩:=r
 dsimp only at nC h0 ⊢
 refine xA ?_
 intro b5
 refine xB ?_ ?_<;>intro h1
 ·have e0:s.sync name=(s,e):=by
   have h1:e≠0:=by simpa using h1
   unfold cd.sync;rw[nC]
   cases p
   ·rfl
   ·exact ao h1
  refine xS ?_
  exact X.ret hb (.tmps U) ⟨_,⟨by rw[e0];rfl,by rw[e0]⟩,rZ (M:=M) (dq:=dq) eI kl⟩
 ·have h1:e=0:=by simpa using h1
  obtain⟨vP,_,⟨fb,f⟩,hp,hd⟩:=h0 h1
  subst hp
  subst h1
  obtain⟨pre,post,rfl,_⟩:=kW hd
  have vC:=kl
  rw[pG]at vC
  have hlen:=eI.len vC.symm
  have e1:s.sync name=s.jg (oV s.files name ⟨f.data,f.data.length⟩) s.used:=by
   unfold cd.sync;rw[nC];rfl
  dsimp only[pv,cO]
  refine xS ?_
  refine hU [bx b5 75 [bu fb],mp bn M (ft (pre++(name,fb,f)::post)),dZ ((pre++(name,fb,f)::post).map fA)] ?_
  have ir:oV s.files name ⟨f.data,f.data.length⟩=oU pre++(name,⟨f.data,f.data.length⟩)::oU post:=by
   rw[<-vC];exact FT (by rw[vC];exact eI.nd)
  have vD:({s with files:=oV s.files name ⟨f.data,f.data.length⟩,used:=s.used}:cd).ok:=by
   rw[ir];exact eI.set vC.symm _ (by simp) eI.le (by simp)
  refine cP (uL G D M s dq 189 [bu b5] _ (dZ [mp bn M (ft (pre++(name,fb,⟨f.data,f.data.length⟩)::post)),dZ ((pre++(name,fb,⟨f.data,f.data.length⟩)::post).map fA)]) (oV s.files name ⟨f.data,f.data.length⟩) s.used eI vD ?_ ?_ (Zz G D M b5 _ pre post name fb f)) ?_
  ·refine(gm _).trans ((bS.drop _ _).trans (ko kl []))
  ·exact(gm _).trans (ko (by rw[ir];simp[oU]) [])
  ·rintro v B ⟨rfl,rfl⟩
   rw[<-e1]
   refine xD ?_
   exact xR
def lL(l:Y (Bs×cN))(name:Bs):Y (Bs×cN):=l.filter λx=> !(x.1==name)
def pH(l:qt)(name:Bs):qt:=l.filter λx=> !(x.1==name)
theorem AL(fs:qt)(name:Bs):oU (pH fs name)=lL (oU fs) name:=by
 unfold oU pH lL;rw[List.filter_map];rfl
theorem xw{fs:qt}(h:name∉fs.map (·.1)):pH fs name=fs:=by
 grind [pH,List.filter_eq_self]
theorem zg{pre post:qt}{y:ab×cN}(h:((pre++(name,y)::post).map (·.1)).Nodup):pH (pre++(name,y)::post) name=pre++post:=by
 rw[dx,bN]at h;obtain⟨h1,h2,h3⟩:=fN.1 h;obtain⟨h4,h5⟩:=gy.1 h2;have e1:=xw (fs:=pre) (name:=name) (λhh=>h3 name hh name (List.mem_cons_self ..) U);have e2:=xw (fs:=post) (name:=name) h4;unfold pH at e1 e2 ⊢;rw[List.filter_append,List.filter_cons];simp only[beq_self_eq_true,Bool.not_true,di,aI];rw[e1,e2]
theorem Ja(fs:qt)(name:Bs)(h:(fs.map (·.1)).Nodup):vB (ft fs) name=ft (pH fs name):=by
 cases hd:lK fs name with
 |none=>
  grind [rH,xw,vB]
 |some y=>
  obtain⟨pre,post,rfl,hn⟩:=kW hd;rw[zg h];have h2:(ft (pre++(name,y)::post)).findIdx? (·.1=name)=aN pre.length:=by
   grind
  unfold vB;rw[h2];simp only[ft,dx,bN];rw[List.eraseIdx_append_of_length_le dW];simp
def zh(o:ah (ab×cN)):ab:=match o with|none=>0|some x=>x.2.data.length
theorem Tv(fs:qt)(name:Bs)(j7:(fs.map (·.1)).Nodup)(hu:zh (lK fs name)<=h.used)(hu2:h.used<=4194304):
 TR be G 372 #[bu D,bn name] [bx D 74 (h.cs M),mp bn M (ft fs),dZ (fs.map fA)] (dC λv B=>v=.tuple #[]/\B=[bx D 74 (DH.cs M {h with used:=h.used - zh (lK fs name)}),mp bn M (ft (pH fs name)),dZ ((pH fs name).map fA)]):=by
 refine bZ U λb O hb hG=>xS ?_
 refine tP name U U U U ?_
 rw[xv]
 cases hd:lK fs name with
 |none=>
  rw[xw (rH hd)];dsimp only[pv,Option.map_none,zh];exact xF
 |some y=>
  rw[hd]at hu;obtain⟨pre,post,rfl,hn⟩:=kW hd;obtain⟨fb,f⟩:=y;have PC:=Ja _ name j7;rw[zg j7]at PC ⊢;dsimp only[pv,cO,zh]at hu ⊢;refine Da pre post name fb f λa c=>xS ?_;refine fU 10 [3,0] ?_;refine xL [0,1,2,3,4,5,6,7,8,9] ?_;refine xS ?_;refine EY name dy U U U ?_;rw[PC,show((h.used:ae) - (f.data.length:ae))=((h.used - f.data.length:ab):ae)from by omega];exact xF
end
section
variable(fs:qt)(l:Y (Bs×cN))(G:dA)(D M:ab)(s:cd)(from_ b50 name:Bs)
def QB(o:ah cN):ab:=match o with|none=>0|some f=>f.data.length
theorem Vi{l:Y (Bs×cN)}{name:Bs}(h:name∉l.map (·.1)):lL l name=l:=by
 grind [lL,List.filter_eq_self]
theorem rI:∀(l:Y (Bs×cN)) (name:Bs),(l.map (·.1)).Nodup->iq (lL l name)+QB (kO l name)=iq l
 |[],_,_=>rfl
 |x::r,name,h=>by
  rw[bN,gy]at h;have ih:=rI r name h.2;unfold lL kO at ih ⊢;by_cases hx:x.1=name
  ·rw[List.filter_cons,List.find?_cons];simp only[hx,beq_self_eq_true,Bool.not_true,di,aI,decide_true,cO,QB];have:=Vi (l:=r) (name:=name) (by rw[<-hx];exact h.1);unfold lL at this;rw[this,nu];omega
  ·rw[List.filter_cons,List.find?_cons];simp only[hx,beq_iff_eq,Bool.not_eq_true',beq_eq_false_iff_ne,ne_eq,not_false_iff,if_true,decide_false];rw[nu,nu];omega
theorem AM:(lL l name).Sublist l:=List.filter_sublist
theorem AN(h:(l.map (·.1)).Nodup):iq (lL l name)<=iq l:=by have:=rI l name h;omega
theorem cd.ok.del{s:cd}(h:s.ok)(name:Bs):({s with files:=lL s.files name,used:=iq (lL s.files name)}:cd).ok:=by
 refine⟨h.nd.sublist ((AM _ _).map _),U,?_,h.cap,h.fa,h.ba,λx hx=>h.last x ((AM _ _).subset hx),λx hx=>h.name x ((AM _ _).subset hx)⟩
 have:=AN s.files name h.nd
 have:=h.yA
 have:=h.le
 grind
theorem Nd:zh (lK fs name)=QB (kO (oU fs) name):=by
 rw[<-wu];cases lK fs name<;>rfl
def cd.remove(s:cd)(name:Bs):cd×ae:=
 if(s.find name aP).2≠0 then(s,(s.find name aP).2)else s.jg (lL s.files name) (iq (lL s.files name))
theorem QC(t2 t3:ab)(h:DH)(fs:qt)(name:Bs)(j7:(fs.map (·.1)).Nodup)(hu:zh (lK fs name)<=h.used)(hu2:h.used<=4194304):
 TR be G 371 #[bu t2,bu t3] [bx D 74 (h.cs M),dZ [bx t2 28 [bu D],bx t3 9 [bn name],mp bn M (ft fs),dZ (fs.map fA)]]
  (dC λv B=>v=.tuple #[]/\B=[bx D 74 (DH.cs M {h with used:=h.used - zh (lK fs name)}),dZ [mp bn M (ft (pH fs name)),dZ ((pH fs name).map fA)]]):=by
 refine bZ U λb O hb hG=>?_
 refine mc [bx t2 28 [bu D],bx t3 9 [bn name],mp bn M (ft fs),dZ (fs.map fA)] (xD ?_)
 refine cP (Tv G D M h fs name j7 hu hu2) ?_
 rintro v B ⟨rfl,rfl⟩
 refine xD ?_
 refine X.fin hb (.tmps U) ⟨_,⟨U,U⟩,?_⟩
 refine bS.trans (bA (A:=[bx D 74 (DH.cs M {h with used:=h.used - zh (lK fs name)}),mp bn M (ft (pH fs name)),dZ ((pH fs name).map fA)])) ?_
 exact bS.cons _ (iS _)
theorem Vj:
 TR be G 273 #[bu D,bn name] [lz D s] (dC λv B=>v=.int .i64 (s.remove name).2/\B=[lz D (s.remove name).1]):=by
 refine bZ U λb O hb hG=>?_
 refine X.ej D λM dq fs eI kl=>?_
 refine xP ?_
 intro t2
 refine xP ?_
 intro t3
 refine xI (sX G D M (fP s dq) fs name aP) ?_
 have nC:=qv kl dq name aP
 dsimp only[bh,bk,bj]
 generalize ny (fP s dq) fs name aP=r at*
 obtain⟨p,e⟩:=r
 dsimp only at nC ⊢
 have e0:s.remove name=if e≠0 then(s,e)else s.jg (lL s.files name) (iq (lL s.files name)):=by
  unfold cd.remove;rw[nC]
 refine xB ?_ ?_<;>intro h1
 ·rw[ao bQ]at e0;exact aB4
 ·rw[aj bQ]at e0;have j7:(fs.map (·.1)).Nodup:=bq3;have iP:=rI s.files name eI.nd;have Nf:=eI.yA;have hul:zh (lK fs name)=QB (kO s.files name):=by rw[Nd,kl]
  have tt:=eI.cap;have hle:=eI.le;refine xS ?_;refine hU [bx t2 28 [bu D],bx t3 9 [bn name],mp bn M (ft fs),dZ (fs.map fA)] ?_;have yN:=QC G D M t2 t3 (zf (fP s dq)) fs name j7 bq4 aB2;rw[show(zf (fP s dq)).used - zh (lK fs name)=iq (lL s.files name)from by show s.used - _=_;omega]at yN;refine cP (uL G D M s dq 371 [bu t2,bu t3] _ _ (lL s.files name) (iq (lL s.files name)) eI (eI.del name) ?_ ?_ yN) ?_
  ·exact aY8
  ·exact(gm _).trans (ko (by rw[AL,kl]) [])
  exact aY9
def cd.truncate(s:cd)(name:Bs)(n:ae):cd×ae:=
 match s.find name (decide (0<=n))with
 |(aN f,e)=>if e≠0 then(s,e)else if n>f.data.length then(s,70)else s.jg (oV s.files name ⟨f.data.take n.toNat,min f.last n.toNat⟩) (s.used - (f.data.length - n.toNat))
 |(aO,e)=>(s,e)
theorem AO(l:Bs)(n:ab):(l.map gT).take (n*1)=(l.take n).map gT:=dW
theorem bU3(a b:ab):(if(b:ae)<(a:ae)then(b:ae)else(a:ae))=((min a b:ab):ae):=bw
theorem Vk(b3 b7 b5:ab)(h:DH)(pre post:qt)(name:Bs)(fb:ab)(f:cN)(n:ab)(hn:n<=f.data.length)(h1:f.data.length<=h.used)(h3:h.used<=4194304)(hl:f.last<=f.data.length):
 TR be G 374 #[bu b3,bu b7,bu b5] [bx D 74 (h.cs M),dZ [bx b3 28 [bu D],bx b7 75 [bu fb],bx b5 3 [.int .i64 n],mp bn M (ft (pre++(name,fb,f)::post)),dZ ((pre++(name,fb,f)::post).map fA)]]
  (dC λv B=>v=.tuple #[]/\B=[bx D 74 (DH.cs M {h with used:=h.used - (f.data.length - n)}),dZ [mp bn M (ft (pre++(name,fb,⟨f.data.take n,min f.last n⟩)::post)),dZ ((pre++(name,fb,⟨f.data.take n,min f.last n⟩)::post).map fA)]]):=by
 refine jy U λb O hb hG=>?_
 refine mc [bx b3 28 [bu D],bx b7 75 [bu fb],bx b5 3 [.int .i64 n],mp bn M (ft (pre++(name,fb,f)::post)),dZ ((pre++(name,fb,f)::post).map fA)] ?_
 dsimp only[bh,bk,bj]
 refine Da pre post name fb f λa c=>xS ?_
 refine fU 12 [3,7,4,0,5] ?_
 refine xL [0,1,2,3,4,5,6,7,8,9,10,11] ?_
 refine xS ?_
 refine fU 7 [5,1,6] ?_
 refine xL [0,1,2,3,4,5,6] ?_
 refine xS ?_
 refine X5 U U U U U U U hn (xS ?_)
 refine fU 7 [5,0,6] ?_
 refine xL [0,1,2,3,4,5,6] ?_
 refine xS ?_
 refine L3 n (a:=a) hn ?_
 rw[AO]
 have hu:=@pz pre post name fb ⟨f.data.take n,min f.last n⟩ a n []
 dsimp only at hu
 rw[show(f.data.take n).length=n from by simp;omega]at hu
 rw[FV pre post name fb f ⟨f.data.take n,min f.last n⟩,bU3,show((h.used:ae) - ((f.data.length:ae) - (n:ae)))=((h.used - (f.data.length - n):ab):ae)from by omega]
 refine X.fin hb (.tmps U) ⟨_,⟨U,U⟩,?_⟩
 refine bS.trans (bA (A:=[bx D 74 (DH.cs M {h with used:=h.used - (f.data.length - n)}),mp bn M (ft (pre++(name,fb,⟨f.data.take n,min f.last n⟩)::post)),bx fb 78 [.slice a n n,.int .i64 (min f.last n:ab)],own 5 1 a n n ((f.data.take n).map gT),dZ ((pre++post).map fA)])) ?_
 refine bS.cons _ ?_
 refine bS.trans (bS.cons _ hu) ?_
 exact iS _
theorem Ng(n:ae):
 TR be G 279 #[bu D,bn name,.int .i64 n] [lz D s] (dC λv B=>v=.int .i64 (s.truncate name n).2/\B=[lz D (s.truncate name n).1]):=by
 refine jy U λb O hb hG=>?_
 refine X.ej D λM dq fs eI kl=>?_
 refine xP ?_
 intro b3
 refine xP ?_
 intro b5
 refine xI (sX G D M (fP s dq) fs name (decide (0<=n))) ?_
 have nC:=qv kl dq name (decide (0<=n))
 have h0:=uM (h:=fP s dq) (fs:=fs) (name:=name) (right:=decide (0<=n))
 dsimp only[bh,bk,bj]
 generalize ny (fP s dq) fs name (decide (0<=n))=r at*
 obtain⟨p,e⟩:=r
 dsimp only at nC h0 ⊢
 refine xA ?_
 intro b7
 refine xB ?_ ?_<;>intro h1
 ·have e0:s.truncate name n=(s,e):=by
   have h1:e≠0:=by simpa using h1
   unfold cd.truncate;rw[nC]
   cases p
   ·rfl
   ·exact ao h1
  refine xS ?_
  exact X.ret hb (.tmps U) ⟨_,⟨by rw[e0];rfl,by rw[e0]⟩,rZ (M:=M) (dq:=dq) eI kl⟩
 ·have h1:e=0:=by simpa using h1
  obtain⟨vP,hrt,⟨fb,f⟩,hp,hd⟩:=h0 h1
  have hn0:0<=n:=by simpa using hrt
  obtain⟨n,rfl⟩:∃k:ab,n=k:=⟨n.toNat,by omega⟩
  subst hp
  subst h1
  obtain⟨pre,post,rfl,_⟩:=kW hd
  have vC:=kl
  rw[pG]at vC
  have hlen:=eI.len vC.symm
  have e1:s.truncate name n=if(n:ae)>f.data.length then(s,70)else s.jg (oV s.files name ⟨f.data.take n,min f.last n⟩) (s.used - (f.data.length - n)):=by
   unfold cd.truncate;rw[nC];rfl
  dsimp only[pv,cO]
  refine Da pre post name fb f λa c=>xS ?_
  refine fU 8 [6,3,0] ?_
  refine xL [0,1,2,3,4,5,6,7] ?_
  refine xS ?_
  refine X.dE (Hs':=[dZ ((pre++(name,fb,f)::post).map fA),bx b7 75 [bu fb],bx D 74 (DH.cs M (fP s dq)),mp bn M (ft (pre++(name,fb,f)::post)),bx b5 3 [.int .i64 n],bx b3 28 [bu D]]) ?_ ?_
  ·refine bS.trans (bS.es (A:=[bx fb 78 [.slice a f.data.length c,.int .i64 f.last],own 5 1 a f.data.length c (f.data.map gT),dZ ((pre++post).map fA)])) ?_
   refine bS.trans (pz (pre:=pre) (post:=post) (name:=name) (f:=f) _) ?_
   exact bS.cons _ (by simp only[List.append_eq,bk];exact bA)
  refine yB ((n:ae)>f.data.length) (¬(n:ae)>f.data.length) ?_ ?_<;>intro h2
  ·rw[ao h2]at e1
   refine xS ?_
   exact X.ret hb (.tmps U) ⟨_,⟨by rw[e1];rfl,by rw[e1]⟩,rZ (M:=M) (dq:=dq) eI kl⟩
  ·rw[aj h2]at e1
   have Xz:n<=f.data.length:=by omega
   refine xS ?_
   refine hU [bx b3 28 [bu D],bx b7 75 [bu fb],bx b5 3 [.int .i64 n],mp bn M (ft (pre++(name,fb,f)::post)),dZ ((pre++(name,fb,f)::post).map fA)] ?_
   have ir:oV s.files name ⟨f.data.take n,min f.last n⟩=oU pre++(name,⟨f.data.take n,min f.last n⟩)::oU post:=by
    rw[<-vC];exact FT (by rw[vC];exact eI.nd)
   have hle:=eI.le
   have vD:({s with files:=oV s.files name ⟨f.data.take n,min f.last n⟩,used:=s.used - (f.data.length - n)}:cd).ok:=by
    rw[ir];exact eI.set vC.symm _ (by simp;omega) (by omega) (by simp;omega)
   refine cP (uL G D M s dq 374 [bu b3,bu b7,bu b5] _ (dZ [mp bn M (ft (pre++(name,fb,⟨f.data.take n,min f.last n⟩)::post)),dZ ((pre++(name,fb,⟨f.data.take n,min f.last n⟩)::post).map fA)]) (oV s.files name ⟨f.data.take n,min f.last n⟩) (s.used - (f.data.length - n)) eI vD ?_ ?_ (Vk G D M b3 b7 b5 _ pre post name fb f n Xz (by show _<=s.used;omega) (by show s.used<=_;omega) hlen.2.1)) ?_
   ·exact(gm _).trans ((bS.drop _ _).trans ((bS.drop _ _).trans ((bS.drop _ _).trans (ko kl []))))
   ·exact(gm _).trans (ko (by rw[ir];simp[oU]) [])
   ·rintro v B ⟨rfl,rfl⟩
    rw[<-e1]
    refine xD ?_
    exact xR
def cd.read(s:cd)(name:Bs)(at_ n:ae):cd×Bs×ae:=
 match s.find name (decide (0<=at_)&&decide (0<=n))with
 |(aN f,e)=>if e≠0 then(s,[],e)else
  let r:=s.jg s.files s.used
  (r.1,if r.2=0 then(f.data.drop at_.toNat).take n.toNat else[],r.2)
 |(aO,e)=>(s,[],e)
theorem bH1(a b:ab):(if(b:ae)<(a:ae)then(b:ae)else(a:ae))=((min a b:ab):ae):=bw
theorem ZA(t6 t10 t7 t12:ab)(h:DH)(pre post:qt)(name:Bs)(fb:ab)(f:cN)(at_ n:ab)(hl:f.data.length<=4194304)(ha:at_<=9223372036854775807)(hn:n<=9223372036854775807):
 TR be G 323 #[bu t6,bu t10,bu t7,bu t12] [bx D 74 (h.cs M),dZ [bx t6 3 [.int .i64 at_],bx t10 75 [bu fb],bx t7 3 [.int .i64 n],bx t12 55 [.slice aO 0 0],mp bn M (ft (pre++(name,fb,f)::post)),dZ ((pre++(name,fb,f)::post).map fA)]]
  (dC λv B=>v=.tuple #[]/\B=[bx D 74 (DH.cs M {h with used:=h.used}),dZ [vn 55 t12 ((f.data.drop at_).take n),mp bn M (ft (pre++(name,fb,f)::post)),dZ ((pre++(name,fb,f)::post).map fA)]]):=by
 refine TR.go (us:=[_,_,_,_]) (bH U) λb O hb hG=>?_
 refine mc [bx t6 3 [.int .i64 at_],bx t10 75 [bu fb],bx t7 3 [.int .i64 n],bx t12 55 [.slice aO 0 0],mp bn M (ft (pre++(name,fb,f)::post)),dZ ((pre++(name,fb,f)::post).map fA)] ?_
 dsimp only[bh,bk,bj]
 refine Da pre post name fb f λa c=>xS ?_
 refine fU 8 [3,4,0] ?_
 refine xL [0,1,2,3,4,5,6,7] ?_
 rw[bH1]
 obtain⟨m,hm⟩:∃m,m=min at_ f.data.length:=⟨_,U⟩
 rw[<-hm]
 have hml:m<=f.data.length:=bw
 refine xS ?_
 refine fU 16 [4,0,5] ?_
 refine xL [0,1,2,3,4,5,6,7,8,9,10,11,12,13,14] ?_
 obtain⟨k,hk⟩:∃k,k=min n (f.data.length - m):=⟨_,U⟩
 rw[show(if(f.data.length:ae) - (m:ae)<(n:ae)then(f.data.length:ae) - (m:ae)else(n:ae))=(k:ae)from by omega]
 refine nX a λvl tt=>xS ?_
 refine Yf (l:=m) (h:=m+k) U U U (Bd.at U U) (Bd.at U dW) bw bw λ_=>?_
 rw[show m+k - m=k from by omega]
 refine xS ?_
 refine cP (L7 (e:=5) (A:=[]) (FU G (qw a c m 1) k (c - m) ((f.data.drop m).take k) fD bw ?_) (IJ _) U bw tt) ?_
 ·intro hh
  have:a=aO:=by
   unfold qw at hh;split at hh;all_goals simp_all
  grind
 rintro v B ⟨B',⟨a8,c8,rfl,rfl⟩,rfl⟩
 refine xD ?_
 refine X.fin hb (.tmps U) ⟨_,⟨U,U⟩,?_⟩
 have hkd:(f.data.drop m).take k=(f.data.drop at_).take n:=by
  grind [bI]
 have PF:((f.data.drop m).take k).length=((f.data.drop at_).take n).length:=by rw[hkd]
 rw[PF,hkd]
 refine bS.trans (bA (A:=[bx D 74 (DH.cs M {h with used:=h.used}),mp bn M (ft (pre++(name,fb,f)::post)),bx t12 55 [.slice a8 ((f.data.drop at_).take n).length c8],own 5 1 a8 ((f.data.drop at_).take n).length c8 (((f.data.drop at_).take n).map gT),bx fb 78 [.slice a f.data.length c,.int .i64 f.last],own 5 1 a f.data.length c (f.data.map gT),dZ ((pre++post).map fA)])) ?_
 refine bS.cons _ ?_
 refine bS.trans ?_ (iS _)
 refine bS.trans (eo _ _ _) ?_
 refine bS.trans (bS.cons _ (eo _ _ _)) ?_
 refine bS.trans (iY (f:=λp:ah aX×ab=>[bx t12 55 [.slice p.1 ((f.data.drop at_).take n).length p.2],own 5 1 p.1 ((f.data.drop at_).take n).length p.2 (((f.data.drop at_).take n).map gT)]) (a8,c8) _) ?_
 refine bS.cons _ (bS.cons _ ?_)
 exact pz (pre:=pre) (post:=post) (name:=name) (f:=f) []
def aZ2(p:Bs×ae)(v:aR)(B:Y bG):Prop:=(p.2=0/\∃a c,v=.tuple #[.slice a p.1.length c,.int .i64 0]/\B=[own 5 1 a p.1.length c (p.1.map gT)])\/(p.2≠0/\v=.tuple #[.slice aO 0 0,.int .i64 p.2]/\B=[])
theorem ZB(dq:ae)(fd:ab)[CF be fd](cap:Y aR)(S S' extra:bG)(files:Y (Bs×cN))(u:ab)(eI:s.ok)(hok':({s with files:=files,used:=u}:cd).ok)(hS:bS [S] [Ij M s.files])(Vf:bS [S'] [Ij M files,extra])(qL:TR be G fd cap.toArray [bx D 74 (DH.cs M (zf (fP s dq))),S] (dC λv B=>v=.tuple #[]/\B=[bx D 74 (DH.cs M {zf (fP s dq)with used:=u}),S'])):
 TR be G 188 #[bu D,.func (.func fd) #[] cap.toArray] [bx D 74 ((fP s dq).cs M),S] (dC λv B=>v=.int .i64 (s.jg files u).2/\B=lz D (s.jg files u).1::(if(s.jg files u).2=0 then[extra]else[])):=by
 refine(Zu G D M (fP s dq) fd cap S S' u eI.fa eI.ba qL).eY (bS.refl _) ?_
 rintro e B hB
 cases e with
 |panicked ch=>exact hB.elim
 |outgrown=>exact hB.elim
 |returned v=>
  obtain⟨rfl,rfl⟩:=hB;have h4:=eI.jg hok';unfold aA9 aB0;unfold cd.jg at h4 ⊢;have hS1:bS [S'] [Ij M files]:=Vf.trans (ia [_] [_]);by_cases h1:s.fK=1
  ·rw[ao h1]at h4 ⊢;rw[ao (show(fP s dq).fK=1 from h1),ao (show(fP s dq).fK=1 from h1)];by_cases h2:s.done=aP
   ·rw[ao h2]at h4 ⊢;rw[ao (show(fP s dq).done=aP from h2)];exact⟨_,⟨U,U⟩,bS.ej (s:={s.qu with files:=files,used:=u,down:=aP}) (dq:=eu.wrap (dq+1)) h4 hS1⟩
   exact aY4
  ·rw[aj h1]at h4 ⊢;rw[aj (show ¬(fP s dq).fK=1 from h1),aj (show ¬(fP s dq).fK=1 from h1)];by_cases h2:s.iu=1
   ·exact aY5
   ·rw[aj h2]at h4 ⊢;rw[aj (show ¬(fP s dq).iu=1 from h2),aj (show ¬(fP s dq).iu=1 from h2)];refine⟨_,⟨U,U⟩,?_⟩;refine(bS.cons _ Vf).trans ?_;exact je (bS.ej (s:={s.qu with files:=files,used:=u}) (dq:=eu.wrap (dq+1)) h4 (bS.refl _)) [extra]
theorem aB5(at_ n:ae)(ha:at_<=9223372036854775807)(hnn:n<=9223372036854775807):
 TR be G 218 #[bu D,bn name,.int .i64 at_,.int .i64 n] [lz D s] (dC λv B=>∃B',aZ2 (s.read name at_ n).2 v B'/\B=lz D (s.read name at_ n).1::B'):=by
 refine TR.go (us:=[_,_,_,_]) (bH U) λb O hb hG=>?_
 refine X.ej D λM dq fs eI kl=>?_
 refine xP ?_
 intro t6
 refine xP ?_
 intro t7
 have bad:∀(p:ah (ab×cN)) (e:ae),s.find name (decide (0<=at_)&&decide (0<=n))=(p.map (·.2),e)->e≠0->s.read name at_ n=(s,[],e):=by
  intro p e nC he;unfold cd.read;rw[nC];cases p
  ·rfl
  ·exact ao he
 refine yT 18 (0<=at_) (¬0<=at_) ?_ ?_<;>intro h9
 ·obtain⟨at_,rfl⟩:∃k:ab,at_=k:=⟨at_.toNat,by omega⟩;refine xI (sX G D M (fP s dq) fs name (decide (n≥0))) ?_;have nC:=qv kl dq name (decide (n≥0));have h0:=uM (h:=fP s dq) (fs:=fs) (name:=name) (right:=decide (n≥0));have hrt:(decide (0<=(at_:ae))&&decide (0<=n))=decide (n≥0):=dW;rw[hrt]at bad;dsimp only[bh,bk,bj];generalize ny (fP s dq) fs name (decide (n≥0))=r at*;obtain⟨p,e⟩:=r;dsimp only at nC h0 ⊢;refine xA ?_;intro tu;refine yB (e≠0) (e=0) ?_ ?_<;>intro h1
  ·exact aZ3
  ·obtain⟨vP,hr0,⟨fb,f⟩,hp,hd⟩:=h0 h1;have hn0:0<=n:=by simpa using hr0
   obtain⟨n,rfl⟩:∃k:ab,n=k:=⟨n.toNat,by omega⟩;subst hp;subst h1;obtain⟨pre,post,rfl,_⟩:=kW hd;have vC:=kl;rw[pG]at vC;have hlen:=eI.len vC.symm;have e1:s.read name at_ n=((s.jg s.files s.used).1,if(s.jg s.files s.used).2=0 then(f.data.drop at_).take n else[],(s.jg s.files s.used).2):=by
    unfold cd.read;rw[hrt,nC];rfl
   dsimp only[pv,cO];refine xA ?_;intro t12;refine hU [bx t6 3 [.int .i64 at_],bx tu 75 [bu fb],bx t7 3 [.int .i64 n],bx t12 55 [.slice aO 0 0],mp bn M (ft (pre++(name,fb,f)::post)),dZ ((pre++(name,fb,f)::post).map fA)] ?_;have vD:({s with files:=s.files,used:=s.used}:cd).ok:=eI;refine cP (ZB G D M s dq 323 [bu t6,bu tu,bu t7,bu t12] _ (dZ [vn 55 t12 ((f.data.drop at_).take n),mp bn M (ft (pre++(name,fb,f)::post)),dZ ((pre++(name,fb,f)::post).map fA)]) (vn 55 t12 ((f.data.drop at_).take n)) s.files s.used eI vD ?_ ?_ (ZA G D M t6 tu t7 t12 _ pre post name fb f at_ n bw bw bw)) ?_
   ·exact aZ4
   ·refine(gm _).trans ?_;refine(ew (b:=[mp bn M (ft (pre++(name,fb,f)::post)),dZ ((pre++(name,fb,f)::post).map fA),vn 55 t12 ((f.data.drop at_).take n)]) ?_).trans (ko kl _);exact aU8
   ·rintro v B ⟨rfl,rfl⟩;generalize s.jg s.files s.used=q at*;obtain⟨s',e'⟩:=q;dsimp only at e1 ⊢;by_cases h3:e'=0
    ·subst h3;rw[ao U];rw[ao U]at e1;refine xD ?_;refine S5 55 t12 λa1 c1=>xS ?_;exact cT hb (.tmps U) ⟨_,by rw[e1];exact .inl ⟨U,a1,c1,U,U⟩,by rw[e1]⟩
    ·rw[aj h3];rw[aj h3]at e1;refine xD ?_;refine xB ?_ ?_<;>intro h4
     ·refine xS ?_;exact cT hb (.tmps U) ⟨[],by rw[e1];exact .inr ⟨h3,U,U⟩,by rw[e1]⟩
     ·exact aD ZC h3
 ·refine xI (sX G D M (fP s dq) fs name aQ) ?_;have nC:=qv kl dq name aQ;have h0:=uM (h:=fP s dq) (fs:=fs) (name:=name) (right:=aQ);have hrt:(decide (0<=at_)&&decide (0<=n))=aQ:=by simp[h9]
  rw[hrt]at bad;dsimp only[bh,bk,bj];generalize ny (fP s dq) fs name aQ=r at*;obtain⟨p,e⟩:=r;dsimp only at nC h0 ⊢;refine xA ?_;intro tu;refine yB (e≠0) (e=0) ?_ ?_<;>intro h1
  ·exact aZ3
  ·exact aD (h0 h1).2.1 dW
def cd.renamed(s:cd)(from_ b50:Bs)(f:cN):Y (Bs×cN):=if from_=b50 then s.files else lL (lL s.files b50) from_++[(b50,f)]
def cd.rename(s:cd)(from_ b50:Bs):cd×ae:=
 match s.find from_ (eO b50)with
 |(aN f,e)=>if e≠0 then(s,e)else s.jg (s.renamed from_ b50 f) (iq (s.renamed from_ b50 f))
 |(aO,e)=>(s,e)
theorem Nh{fs:qt}{name:Bs}(h:name∉fs.map (·.1))(fb:ab)(f:cN):iT (ft fs) name (bu fb)=ft (fs++[(name,fb,f)]):=by
 grind [nr]
theorem ZD:name∉(pH fs name).map (·.1):=by
 intro h
 obtain⟨x,hx,hxn⟩:=cu.1 h
 have:=(eM.1 hx).2
 grind
theorem FW:(pH fs name).Sublist fs:=List.filter_sublist
theorem Jb{fs:qt}{a b:Bs}(hab:a≠b):lK (pH fs b) a=lK fs a:=by
 grind [lK,pH]
theorem QE(t4 t5 t3 t7:ab)(h:DH)(fs:qt)(from_ b50:Bs)(fb:ab)(f:cN)(hd:lK fs from_=aN (fb,f))(mf:from_≠b50)(j7:(fs.map (·.1)).Nodup)(hu:zh (lK fs b50)<=h.used)(hu2:h.used<=4194304):
 TR be G 373 #[bu t4,bu t5,bu t3,bu t7] [bx D 74 (h.cs M),dZ [bx t4 9 [bn from_],bx t5 9 [bn b50],bx t3 28 [bu D],bx t7 75 [bu fb],mp bn M (ft fs),dZ (fs.map fA)]]
  (dC λv B=>v=.tuple #[]/\B=[bx D 74 (DH.cs M {h with used:=h.used - zh (lK fs b50)}),dZ [mp bn M (ft (pH (pH fs b50) from_++[(b50,fb,f)])),dZ ((pH (pH fs b50) from_++[(b50,fb,f)]).map fA)]]):=by
 refine TR.go (us:=[_,_,_,_]) (bH U) λb O hb hG=>?_
 refine mc [bx t4 9 [bn from_],bx t5 9 [bn b50],bx t3 28 [bu D],bx t7 75 [bu fb],mp bn M (ft fs),dZ (fs.map fA)] (xD ?_)
 refine xB ?_ ?_<;>intro h1
 ·exact aD bQ mf
 ·refine xH (Tv G D M h fs b50 j7 hu hu2) ?_;generalize h.used - zh (lK fs b50)=u at*;refine xS ?_;refine fU 5 [5,0,3] ?_;refine xL [0,1,2,3,4] ?_;refine nU U U U U ?_;refine EY from_ dy U U U ?_;rw[Ja _ _ (j7.sublist ((FW fs b50).map _))];refine xS ?_;refine fU 6 [5,1,4,6] ?_;refine xL [0,1,2,3,4,5] ?_;refine nU U U U U ?_;refine rM b50 dy U U U U ?_;rw[Nh (λhh=>ZD fs b50 (((FW _ from_).map _).subset hh)) fb f];refine xS ?_;refine X.fin hb (.tmps U) ⟨_,⟨U,U⟩,?_⟩;have Tw:lK (pH fs b50) from_=aN (fb,f):=by grind [Jb]
  obtain⟨pre,post,XB,_⟩:=kW Tw;have Vl:pH (pH fs b50) from_=pre++post:=by
   grind [FW,zg]
  refine bS.trans (bA (A:=[bx D 74 (DH.cs M {h with used:=u}),mp bn M (ft (pH (pH fs b50) from_++[(b50,fb,f)])),dZ ((pH fs b50).map fA)])) ?_;refine bS.cons _ ?_;refine bS.trans (bS.cons _ ?_) (iS _);refine(gm _).trans (bS.trans (ew ?_) (iS _));rw[Vl,XB];simp only[dx,bN,jo];refine gF.trans ?_;rw[<-dx];exact(List.perm_append_singleton _ _).symm
theorem QG(t4 t5 t3 t7:ab)(h:DH)(S:Y bG)(name:Bs)(fb:ab):
 TR be G 373 #[bu t4,bu t5,bu t3,bu t7] [bx D 74 (h.cs M),dZ [bx t4 9 [bn name],bx t5 9 [bn name],bx t3 28 [bu D],bx t7 75 [bu fb],dZ S]]
  (dC λv B=>v=.tuple #[]/\B=[bx D 74 (DH.cs M {h with used:=h.used}),dZ S]):=by
 refine TR.go (us:=[_,_,_,_]) (bH U) λb O hb hG=>?_
 refine mc [bx t4 9 [bn name],bx t5 9 [bn name],bx t3 28 [bu D],bx t7 75 [bu fb],dZ S] (xD ?_)
 refine xB ?_ ?_<;>intro h1
 ·exact xR
 ·simp at h1
theorem cd.ok.renamed{s:cd}(h:s.ok){from_ b50:Bs}{f:cN}(hf:kO s.files from_=aN f)(hto:eO b50=aP):({s with files:=s.renamed from_ b50 f,used:=iq (s.renamed from_ b50 f)}:cd).ok:=by
 unfold cd.renamed;by_cases mf:from_=b50
 ·rw[ao mf,<-h.yA];exact h
 ·rw[aj mf]
  have h1:=h.del b50
  have h2:=h1.del from_
  have hfm:∃x∈s.files,x.1=from_/\x.2=f:=by
   grind [kO,cz]
  obtain⟨x,hx,jT,rfl⟩:=hfm
  have hag:kO (lL s.files b50) from_=kO s.files from_:=by
   grind [kO,lL]
  have iP:=rI (lL s.files b50) from_ h1.nd
  rw[hag,hf]at iP
  simp only[QB]at iP
  have hle1:=AN s.files b50 h.nd
  have Nf:=h.yA
  have hle:=h.le
  refine⟨?_,U,?_,h.cap,h.fa,h.ba,?_,?_⟩
  ·simp only[dx,bN,jo]
   rw[fN]
   refine⟨h2.nd,by simp,?_⟩
   intro a ha c hc hh
   simp only[cK]at hc
   subst hc;subst hh
   obtain⟨y,hy,hyn⟩:=cu.1 ha
   have:=(eM.1 ((AM _ _).subset hy)).2
   grind
  ·grind [iq]
  ·intro y hy;rcases du.1 hy with hy|hy
   ·exact h2.last y hy
   ·simp only[cK]at hy;subst hy;exact h.last x hx
  ·intro y hy
   rcases du.1 hy with hy|hy
   ·exact h2.name y hy
   grind
theorem Vm:
 TR be G 277 #[bu D,bn from_,bn b50] [lz D s] (dC λv B=>v=.int .i64 (s.rename from_ b50).2/\B=[lz D (s.rename from_ b50).1]):=by
 refine jy U λb O hb hG=>?_
 refine X.ej D λM dq fs eI kl=>?_
 have nC:=qv kl dq from_ (eO b50)
 have h0:=uM (h:=fP s dq) (fs:=fs) (name:=from_) (right:=eO b50)
 have BR:=sX G D M (fP s dq) fs from_ (eO b50)
 generalize ny (fP s dq) fs from_ (eO b50)=r at*
 obtain⟨p,e⟩:=r
 dsimp only at nC h0 BR
 refine xP ?_
 intro t3
 refine xP ?_
 intro t4
 refine xP ?_
 intro t5
 refine iK (ι:=ab) (λt7=>([(3,bu t3),(4,bu t4),(5,bu t5),(6,.int .i64 0),(7,bu t7),(8,.int .i64 e)],[bx t7 75 [.pointer (pv p)],bx t5 9 [bn b50],bx t4 9 [bn from_],bx t3 28 [bu D],bx D 74 (DH.cs M (fP s dq)),mp bn M (ft fs),dZ (fs.map fA)])) (λt7=>?_) (λK fin=>?_)
 ·dsimp only;refine xB ?_ ?_<;>intro h1
  ·have e0:s.rename from_ b50=(s,e):=by
    have h1:e≠0:=yz;unfold cd.rename;rw[nC];exact Tu
   exact aB4
  ·have h1:e=0:=yz;obtain⟨vP,hto,⟨fb,f⟩,hp,hd⟩:=h0 h1;subst hp;subst h1;have e1:s.rename from_ b50=s.jg (s.renamed from_ b50 f) (iq (s.renamed from_ b50 f)):=by
    unfold cd.rename;rw[nC];rfl
   have hag:kO s.files from_=aN f:=by rw[<-kl,<-wu,hd];rfl
   have vD:=eI.renamed hag hto;dsimp only[pv,cO];have j7:(fs.map (·.1)).Nodup:=bq3;by_cases mf:from_=b50
   ·subst mf;have hrn:s.renamed from_ from_ f=s.files:=by unfold cd.renamed;rw[ao U]
    rw[hrn,<-eI.yA]at e1;refine xS ?_;refine hU [mp bn M (ft fs),dZ (fs.map fA)] ?_;refine hU [bx t4 9 [bn from_],bx t5 9 [bn from_],bx t3 28 [bu D],bx t7 75 [bu fb],dZ [mp bn M (ft fs),dZ (fs.map fA)]] ?_;refine cP (uL G D M s dq 373 [bu t4,bu t5,bu t3,bu t7] _ _ s.files s.used eI eI ?_ ?_ (QG G D M t4 t5 t3 t7 _ [mp bn M (ft fs),dZ (fs.map fA)] from_ fb)) ?_
    ·exact(gm _).trans ((bS.drop _ _).trans ((bS.drop _ _).trans ((bS.drop _ _).trans ((bS.drop _ _).trans ((gm _).trans (ko kl []))))))
    ·exact(gm _).trans (ko kl [])
    ·exact aZ6
   ·have iP:=rI s.files b50 eI.nd;have Nf:=eI.yA;have hul:zh (lK fs b50)=QB (kO s.files b50):=by rw[Nd,kl]
    have tt:=eI.cap;have hle:=eI.le;have hrn:s.renamed from_ b50 f=lL (lL s.files b50) from_++[(b50,f)]:=by unfold cd.renamed;rw[aj mf]
    have hsum2:iq (s.renamed from_ b50 f)=iq (lL s.files b50):=by
     have h1:=rI (lL s.files b50) from_ (eI.del b50).nd;have hag2:kO (lL s.files b50) from_=aN f:=by
      rw[<-kl,<-AL,<-wu,Jb mf,hd];rfl
     rw[hag2]at h1;rw[hrn,tY,<-h1];simp[iq,QB]
    refine xS ?_;refine hU [bx t4 9 [bn from_],bx t5 9 [bn b50],bx t3 28 [bu D],bx t7 75 [bu fb],mp bn M (ft fs),dZ (fs.map fA)] ?_;have yN:=QE G D M t4 t5 t3 t7 (zf (fP s dq)) fs from_ b50 fb f hd mf j7 bq4 aB2;rw[show(zf (fP s dq)).used - zh (lK fs b50)=iq (s.renamed from_ b50 f)from by show s.used - _=_;omega]at yN;refine cP (uL G D M s dq 373 [bu t4,bu t5,bu t3,bu t7] _ _ (s.renamed from_ b50 f) (iq (s.renamed from_ b50 f)) eI vD ?_ ?_ yN) ?_
    ·exact aZ4
    ·exact(gm _).trans (ko (by rw[hrn,<-kl,<-AL,<-AL];simp[oU]) [])
    ·exact aZ6
 ·refine ph [0,1,2,5,6,7] [2,1,0] ?_;refine xL [0,1,2] ?_;refine eN U U U U U ?_ ?_
  ·refine xS ?_;refine eN U U U U U ?_ ?_
   ·refine xE BR ?_;refine xL [5,6,7] ?_;refine xA ?_;intro t7;exact X.W (fin t7)
   exact aZ7
  exact aZ7
end
end Go.Proofs
namespace Go.Proofs
open Go.Shelf
set_option maxRecDepth 8000
def Ah:Go.Shelf.Ren:=⟨fun|6=>256|8=>363|9=>362|19=>440|20=>357|21=>431|22=>432|23=>433|24=>434|25=>435|26=>436|27=>437|28=>438|29=>439|36=>479|31=>480|32=>481|37=>482|38=>483|39=>403|41=>499|n=>n,fun|27=>35|29=>9|3=>3|32=>388|26=>35|0=>0|44=>139|46=>87|4=>4|36=>552|35=>551|41=>556|5=>5|9=>9|53=>588|57=>425|63=>598|64=>44|n=>n,fun|n=>n⟩
theorem bears{n:ab}{f B:Func}(h:be.funcs[n]?=aN f)(c:(f.name== "runtime.NumGoroutine")=aQ:=by decide)(k:f={B with name:=f.name}:=by kernel_rfl):Bears be n B:=⟨f.name,c,h.trans (aH aN k)⟩
theorem yH:Go.Proofs.SlLaysM.n6 be Ah:=by
 constructor
 case f6=>exact bears Tryz.func256
 case f9=>exact bears Tryz.func362
 case f21=>exact bears Tryz.func431
 case f22=>exact bears Tryz.func432
 case f23=>exact bears Tryz.func433
 case f24=>exact bears Tryz.func434
 case f25=>exact bears Tryz.func435
 case f26=>exact bears Tryz.func436
 case f27=>exact bears Tryz.func437
 case f28=>exact bears Tryz.func438
 case f29=>exact bears Tryz.func439
 case f36=>exact bears Tryz.func479
 case f37=>exact bears Tryz.func482
 case f38=>exact bears Tryz.func483
 case f39=>exact bears Tryz.func403
 case f41=>exact bears Tryz.func499
 all_goals first|kernel_rfl|(intros;kernel_rfl)|(constructor<;>first|kernel_rfl|(intros;kernel_rfl))
end Go.Proofs
namespace Go.Proofs
open Go.Sl
set_option maxRecDepth 8000
section
variable(l:Y Bs)(jM:ab)(S:Y (Bs×aR))(i:ab)(fs:qt)(G:dA)(D:ab)(s:cd)(a:ah aX)(n c:ab)
def sortStr(l:Y Bs):Y Bs:=l.mergeSort λx y=>decide (x<=y)
theorem kf:(sortStr l).length=l.length:=List.length_mergeSort _
theorem jh:(sortStr l).Perm l:=List.mergeSort_perm _ _
theorem Jc:(l.flatMap λs=>[bn s])=l.map encStr:=by
 induction l<;>grind
theorem ZF(ss:Y Bs)(hn:ss.length=n)(zW:n<=1000000000000):
 TR be G 256 #[.slice a n c] [own 9 1 a n c (ss.flatMap λs=>[bn s])] (dC λv B=>v=.tuple #[]/\B=[own 9 1 a n c ((sortStr ss).flatMap λs=>[bn s])]):=by
 intro O w _ hs
 rw[Jc]at hs
 rw[Jc]
 rcases eR hs with⟨rfl,rfl,rfl,Qf,h2⟩|⟨g,cur,rfl,h3,h6,h7,h8,h9,h2⟩
 ·have ZG:ss=[]:=bQ;subst ZG;refine(AnyM.slices_Sort_string_none yH aO 0 w).mono ?_;rintro e w' ⟨rfl,rfl⟩;exact⟨_,⟨U,U⟩,by simpa[sortStr]using j6 9 1 h2⟩
 ·subst hn
  have hg:=fF h2
  rw[Nat.mul_one]at h3 h8 h9
  have hH:=Go.holds_of_block hg h9
  refine(AnyM.slices_Sort_string yH g 0 c ss w hH (fB.1 hg).1 bw).mono ?_
  rintro e w' ⟨rfl,n',os,rfl⟩
  refine⟨_,⟨U,U⟩,?_⟩
  have h4:=B3 h2 (Go.grownBy_sorted (w:=w) (g:=g) (n:=n') (os:=os) (sortStr ss).toArray) (bW _ _) (Go.heap_sorted (sortStr ss).toArray hg) (.inl U)
  grind [gY,kf,Sort.putCells,Go.take_putCells,sortStr]
theorem r6(f:ab)[CF be f](cap:Y aR)(A:Y bG)(pok fok:Y Bs->Prop)(hit:Dq be G f cap A (λk:Bs=>[bn k]) pok fok)(hl:∀p,pok p->p.length<=1000000000000)(hf:∀p,fok p->p.length<=1000000000000):
 TR be G 161 #[.func (.func f) #[] cap.toArray] [dZ A] (dC λv B=>∃ys,fok ys/\∃a c,v=.slice a (sortStr ys).length c/\B=[own 9 1 a (sortStr ys).length c ((sortStr ys).flatMap λk=>[bn k]),dZ A]):=by
 refine dH U λb O hb hG=>xS ?_
 refine cP (MW G f cap A pok fok hit hl) ?_
 rintro v B ⟨ys,AD,a,c,rfl,rfl⟩
 dsimp only[bh,bk,bj]
 have Ci:=hf ys AD
 refine xS ?_
 refine cP (ZF G a ys.length c ys U Ci) ?_
 rintro v B ⟨rfl,rfl⟩
 refine xD ?_
 exact cT hb (.tmps U) ⟨ys,AD,a,c,by rw[kf];rfl,by rw[kf]⟩
theorem tC{α:Type}{r:α->α->Prop}(anti:∀a b,r a b->r b a->a=b):∀{l m:Y α},l.Perm m->l.Pairwise r->m.Pairwise r->l=m
 |[],m,h,_,_=>(List.Perm.nil_eq h).symm▸U
 |x::l,[],h,_,_=>by simp_all
 |x::l,y::m,h,h1,h2=>by
  have hx:x∈y::m:=h.mem_iff.1 (List.mem_cons_self ..);have hy:y∈x::l:=h.mem_iff.2 (List.mem_cons_self ..);have hxy:x=y:=by
   rcases cW.1 hx with e|hx
   ·exact e
   ·rcases cW.1 hy with e|hy
    ·exact e.symm
    ·exact anti _ _ ((List.pairwise_cons.1 h1).1 y hy) ((List.pairwise_cons.1 h2).1 x hx)
  subst hxy;have h3:l.Perm m:=(List.perm_cons x).1 h;rw[tC anti h3 (List.pairwise_cons.1 h1).2 (List.pairwise_cons.1 h2).2]
theorem wx:(sortStr l).Pairwise (λa b=>a<=b):=by
 have h:=List.pairwise_mergeSort (le:=λx y:Bs=>decide (x<=y)) (λa b c h1 h2=>by simp only[decide_eq_true_eq]at h1 h2 ⊢;exact List.le_trans h1 h2) (λa b=>by simpa using List.le_total a b) l;exact h.imp (λh=>by grind)
theorem pI{l m:Y Bs}(h:l.Perm m):sortStr l=sortStr m:=
 tC (λa b h1 h2=>List.le_antisymm h1 h2) ((jh l).trans (h.trans (jh m).symm)) (wx l) (wx m)
def cd.names(s:cd):Y Bs:=sortStr (s.files.map (·.1))
theorem Ni(hl:s.files.length<=1000000000000):
 TR be G 119 #[bu D] [lz D s] (dC λv B=>∃a c,v=.slice a s.names.length c/\B=[own 9 1 a s.names.length c (s.names.flatMap λk=>[bn k]),lz D s]):=by
 refine dH U λb O hb hG=>?_
 refine X.ej D λM dq fs eI kl=>?_
 have hfm:(ft fs).map (·.1)=s.files.map (·.1):=by rw[<-kl,tX];simp[ft]
 refine xS ?_
 refine cP (YR G M) ?_
 rintro v B ⟨p,rfl,rfl⟩
 refine xD ?_
 refine hU [bx p 72 [.map (aN M)],mp bn M (ft fs)] ?_
 refine cP (r6 G 259 [bu p] _ _ _ (YU G p M (ft fs)) (λpre ⟨post,hp⟩=>?_) (λys hp=>?_)) ?_
 ·have:=hp.length_eq
  grind
 ·have:=hp.length_eq
  grind
 rintro v B ⟨ys,AD,a,c,rfl,rfl⟩
 have xy:sortStr ys=s.names:=by rw[pI AD,hfm];rfl
 rw[xy]
 refine xD ?_
 refine X.ret hb (.tmps U) ⟨_,⟨a,c,U,U⟩,?_⟩
 refine bS.trans (bA (A:=[own 9 1 a s.names.length c (s.names.flatMap λk=>[bn k]),bx D 74 ((fP s dq).cs M),dZ (fs.map fA),dZ [bx p 72 [.map (aN M)],mp bn M (ft fs)]])) ?_
 refine bS.cons _ ?_
 refine bS.trans (ew (b:=[dZ [bx p 72 [.map (aN M)],mp bn M (ft fs)],bx D 74 ((fP s dq).cs M),dZ (fs.map fA)]) ?_) ?_
 ·exact(cH (l₁:=[_,_]) (l₂:=[_]))
 ·refine(iR _ _).trans ?_;dsimp only[bh,bk,bj];exact rZ (M:=M) (dq:=dq) eI kl
structure ca where
 name:Bs
 data:Bs
deriving DecidableEq
abbrev Fq:=Y (ca×ah aX×ab)
abbrev bY(x:ca×ah aX×ab):Y aR:=[bn x.1.name,.slice x.2.1 x.1.data.length x.2.2]
def kL(x:ca×ah aX×ab):bG:=own 5 1 x.2.1 x.1.data.length x.2.2 (x.1.data.map gT)
def zi(a:ah aX)(c:ab)(l:Y ca):bG:=ex λq:Fq=>[pu (q.map (·.1)=l),own 70 2 a l.length c (q.flatMap bY),dZ (q.map kL)]
theorem XP(q:Fq)(x:ca×ah aX×ab)(F:Y bG):bS (kL x::dZ (q.map kL)::F) (dZ ((q++[x]).map kL)::F):=by
 refine(bS.cons _ (iR _ F)).trans (bS.trans ?_ (iE _ F));show bS ((kL x::q.map kL)++F) _;exact aY6
structure SzF(G:dA)(fsz:ab)(sz:cN->ab):Prop where
 ok:∀(fb:ab) (f:cN) (a:ah aX) (c:ab),TR be G fsz #[bu fb] [bx fb 78 [.slice a f.data.length c,.int .i64 f.last]] (dC λv B=>v=.int .i64 (sz f)/\B=[bx fb 78 [.slice a f.data.length c,.int .i64 f.last]])
def vp(s:cd)(sz:cN->ab)(n:Bs):ca:=match kO s.files n with|some f=>⟨n,f.data.take (sz f)⟩|none=>⟨n,[]⟩
def cd.told(s:cd)(sz:cN->ab):Y ca:=s.names.map (vp s sz)
theorem FX(h:i<l.length):l.take (i+1)=l.take i++[l[i]]:=dW
theorem Tx(fsz:ab)[CF be fsz](sz:cN->ab)(zW:SzF G fsz sz)(D:ab)(s:cd)(hl:s.files.length<=1000000000000)(hz:∀x∈s.files,sz x.2<=x.2.data.length):
 TR be G 62 #[bu D,.func (.func fsz) #[] #[]] [lz D s] (dC λv B=>∃a c,v=.slice a (s.told sz).length c/\B=[zi a c (s.told sz),lz D s]):=by
 refine bZ U λb O hb hG=>xS ?_
 refine cP (Ni G D s hl) ?_
 rintro v B ⟨an,cn,rfl,rfl⟩
 dsimp only[bh,bk,bj]
 refine dR an (λk:Bs=>[bn k]) s.names U U (λ_=>rfl) λXC=>?_
 refine X.ej D λM dq fs eI kl=>?_
 have Xz:s.names.length<=1000000000000:=by grind [cd.names,kf]
 have jv:∀n∈s.names,n∈fs.map (·.1):=by
  intro n hn
  have:=(jh _).mem_iff.1 hn
  grind [tX]
 have htd:s.told sz=s.names.map (vp s sz):=U
 generalize vP:s.names=nm at*
 refine xS ?_
 refine X.dE (Hs':=[own 70 2 aO 0 0 [],dp (cy λk:Bs=>[bn k]) 1 an nm,bx D 74 ((fP s dq).cs M),mp bn M (ft fs),dZ (fs.map fA)]) ((bA (A:=[dp (cy λk:Bs=>[bn k]) 1 an nm,bx D 74 ((fP s dq).cs M),mp bn M (ft fs),dZ (fs.map fA)])).trans (fh 70 2 _)) ?_
 refine X.loop (ι:={p:ab×Fq×ah aX×ab // p.1<=nm.length/\p.2.1.map (·.1)=(nm.take p.1).map (vp s sz)}) (λp=>([(0,bu D),(1,.func (.func fsz) #[] #[]),(5,.slice p.1.2.2.1 p.1.2.1.length p.1.2.2.2),(10,.slice an nm.length cn),(11,.int .i64 nm.length),(12,.int .i64 p.1.1)],
  [own 70 2 p.1.2.2.1 p.1.2.1.length p.1.2.2.2 (p.1.2.1.flatMap bY),dZ (p.1.2.1.map kL),dp (cy λk:Bs=>[bn k]) 1 an nm,bx D 74 ((fP s dq).cs M),mp bn M (ft fs),dZ (fs.map fA)])) (λp=>nm.length - p.1.1) ⟨(0,[],aO,0),bp _,U⟩ (Sub.of U) (bS.cons _ (iE [] _)) ?_
 rintro⟨⟨i,q,a5,c5⟩,hi,hq⟩ ih
 dsimp only at hi hq ih ⊢
 refine xB ?_ ?_<;>intro h
 ·have gj:i<nm.length:=bQ;have KX:q.length=i:=bH2;refine xS ?_;refine dJ U U U U U gj U λbl o=>xS ?_;refine tP nm[i] U U U U ?_;rw[xv];obtain⟨⟨fb,f⟩,hd⟩:∃x,lK fs nm[i]=aN x:=by
   cases hd:lK fs nm[i]<;>grind [bE,rH]
  have hag:kO s.files nm[i]=aN f:=by grind [wu]
  have htf:vp s sz nm[i]=⟨nm[i],f.data.take (sz f)⟩:=by grind [vp]
  have xz:=FX nm i gj;rw[hd];obtain⟨pre,post,XB,_⟩:=kW hd;have vC:=kl;rw[XB,pG]at vC;have hlen:=eI.len vC.symm;have hzf:sz f<=f.data.length:=hz (nm[i],f) bQ;rw[XB];generalize nm[i]=name at*;dsimp only[pv,cO];refine Da pre post name fb f λa c=>?_;refine nX a λvl tt=>xS ?_;refine fU 8 [0] ?_;refine xL [0,1,2,3,4,5,6,7] ?_;refine xS ?_;refine jd (fst:=[]) (us:=[bu fb]) (cap:=[]) hG (zW.ok fb f a c) U U U U bS.es ?_;rintro v B ⟨rfl,rfl⟩;refine xD ?_;refine Yf (l:=0) (h:=sz f) U U U Bd.no (Bd.at U U) (bp _) hzf λ_=>?_;rw[Nat.sub_zero,Nat.sub_zero];refine xS ?_;refine cP (L7 (e:=5) (A:=[]) (FU G (qw a c 0 1) (sz f) c ((f.data.drop 0).take (sz f)) fD bw ?_) (IJ _) U bw tt) ?_
  ·intro hh
   have:a=aO:=by
    unfold qw at hh;split at hh;all_goals simp_all
   grind
  rintro v B ⟨B',⟨a8,c8,rfl,rfl⟩,rfl⟩;rw[gx];refine xD ?_;refine xZ ?_;intro Dn;refine fH ((⟨name,f.data.take (sz f)⟩,a8,c8):ca×ah aX×ab) U U U U U U cE cE cE cE cE bw λa9 c9=>xS ?_;refine X.less (ih ⟨(i+1,q++[(⟨name,f.data.take (sz f)⟩,a8,c8)],a9,c9),gj,by grind⟩ bQ) (s6_ U U U U U (dI U dW)) ?_;dsimp only;rw[XB];refine bS.trans (bS.es (A:=[own 5 1 a8 (f.data.take (sz f)).length c8 ((f.data.take (sz f)).map gT),dZ (q.map kL)])) ?_;refine bS.trans (XP q (⟨name,f.data.take (sz f)⟩,a8,c8) _) ?_;simp only[List.append_eq,bk];refine bS.trans (bS.cons _ (bS.es (A:=[bx fb 78 [.slice a f.data.length c,.int .i64 f.last],own 5 1 a f.data.length c (f.data.map gT),dZ ((pre++post).map fA)]))) ?_;refine bS.trans (bS.cons _ (pz (pre:=pre) (post:=post) (name:=name) (f:=f) _)) ?_;exact ZH
 ·have gj:i=nm.length:=bQ;subst gj;rw[bV]at hq;have KX:q.length=(s.told sz).length:=bQ;refine xS ?_;refine X.ret hb (.tmps U) ⟨_,⟨a5,c5,by rw[KX];rfl,U⟩,?_⟩;refine bS.trans (bS.es (A:=[own 70 2 a5 q.length c5 (q.flatMap bY),dZ (q.map kL)])) ?_;refine bS.trans (fE (p:=q.map (·.1)=s.told sz) bQ _) ?_;rw[KX];refine bS.trans (iY (f:=λq:Fq=>[pu (q.map (·.1)=s.told sz),own 70 2 a5 (s.told sz).length c5 (q.flatMap bY),dZ (q.map kL)]) q _) ?_;exact bS.cons _ (rZ (M:=M) (dq:=dq) eI kl)
theorem bH3:SzF G 63 (λf=>f.data.length):=⟨λfb f a c=>by
 refine dH U λb O hb hG=>xS ?_;exact cT hb (.tmps U) ⟨U,U⟩⟩
theorem bq5:SzF G 181 (λf=>f.last):=⟨λfb f a c=>by
 refine dH U λb O hb hG=>xS ?_;exact cT hb (.tmps U) ⟨U,U⟩⟩
abbrev cd.all(s:cd):Y ca:=s.told λf=>f.data.length
abbrev cd.nv(s:cd):Y ca:=s.told λf=>f.last
theorem ZI(hl:s.files.length<=1000000000000):
 TR be G 30 #[bu D] [lz D s] (dC λv B=>∃a c,v=.slice a s.all.length c/\B=[zi a c s.all,lz D s]):=by
 refine dH U λb O hb hG=>xS ?_
 refine cP (Tx G 63 _ (bH3 G) D s hl (λx hx=>bz _)) ?_
 rintro v B ⟨a,c,rfl,rfl⟩
 refine xD ?_
 exact cT hb (.tmps U) ⟨a,c,U,U⟩
theorem QH(hl:s.files.length<=1000000000000)(eI:s.ok):
 TR be G 125 #[bu D] [lz D s] (dC λv B=>∃a c,v=.slice a s.nv.length c/\B=[zi a c s.nv,lz D s]):=by
 refine dH U λb O hb hG=>xS ?_
 refine cP (Tx G 181 _ (bq5 G) D s hl eI.last) ?_
 rintro v B ⟨a,c,rfl,rfl⟩
 refine xD ?_
 exact cT hb (.tmps U) ⟨a,c,U,U⟩
def oW(jM:ab)(f:cN):cN:=⟨f.data.take (f.last+min jM (f.data.length - f.last)),f.last+min jM (f.data.length - f.last)⟩
def cd.jU(s:cd)(jM:ae):cd:=
 let fs:=s.files.map λx=>(x.1,oW jM.toNat x.2)
 {s with files:=fs,used:=iq fs,iu:=0,fK:=0,down:=aQ}
def ZJ(jM:ab)(S:Y (Bs×aR))(x:Bs×ab×cN):Bs×ab×cN:=if x.1∈S.map (·.1)then x else(x.1,x.2.1,oW jM x.2.2)
def cr(jM:ab)(S:Y (Bs×aR))(fs:qt):qt:=fs.map (ZJ jM S)
theorem ZK:cr jM (ft fs) fs=fs:=by
 unfold cr
 conv=>rhs;rw[<-List.map_id fs]
 grind [cY,ZJ]
theorem ZL:oU (cr jM [] fs)=(oU fs).map λx=>(x.1,oW jM x.2):=by
 grind [cr,oU,cY,ZJ]
theorem aB6:ft (cr jM S fs)=ft fs:=by
 grind [cr,cY,ZJ]
theorem aB7(hi:i<S.length)(fs:qt)(hs:S.Sublist (ft fs))(j7:(fs.map (·.1)).Nodup):
 ∃pre post fb f,S[i]=(S[i].1,bu fb)/\(S[i].1,fb,f)∈fs/\cr jM S fs=pre++(S[i].1,fb,f)::post/\cr jM (S.eraseIdx i) fs=pre++(S[i].1,fb,oW jM f)::post:=by
 have jv:S[i]∈ft fs:=hs.subset (bE hi)
 obtain⟨x,hx,ZM⟩:=cu.1 jv
 obtain⟨A,B,rfl⟩:=List.append_of_mem hx
 have h1:S[i].1=x.1:=by rw[<-ZM]
 have hSnd:(S.map (·.1)).Nodup:=bQ
 have hp:(S[i]::S.eraseIdx i).Perm S:=p9 S i hi
 have hnot:S[i].1∉(S.eraseIdx i).map (·.1):=by
  grind
 rw[dx,bN]at j7
 obtain⟨_,vm,hn3⟩:=fN.1 j7
 have same:∀y:Bs×ab×cN,y.1≠x.1->ZJ jM (S.eraseIdx i) y=ZJ jM S y:=by
  intro y hy;unfold ZJ;have:y.1∈(S.eraseIdx i).map (·.1)↔y.1∈S.map (·.1):=by
   grind
  by_cases h5:y.1∈S.map (·.1);all_goals grind
 refine⟨A.map (ZJ jM S),B.map (ZJ jM S),x.2.1,x.2.2,by rw[<-ZM],by grind,?_,?_⟩
 ·grind [cr,ZJ]
 ·unfold cr;rw[dx,bN,h1];congr 1
  ·apply cY
   grind [List.mem_cons_self]
  ·congr 1
   ·grind [ZJ]
   ·apply cY
    grind
theorem cd.ok.jU{s:cd}(h:s.ok)(jM:ae):(s.jU jM).ok:=by
 have hle:∀l:Y (Bs×cN),iq (l.map λx=>(x.1,oW jM.toNat x.2))<=iq l:=by
  intro l;induction l<;>grind [nu,oW]
 refine⟨?_,U,?_,h.cap,bp _,bp _,?_,?_⟩
 ·show((s.files.map λx=>(x.1,oW jM.toNat x.2)).map (·.1)).Nodup;rw[dK];exact h.nd
 ·have:=hle s.files;have:=h.yA;have:=h.le;show iq _<=s.cap;omega
 ·intro x hx
  obtain⟨y,hy,rfl⟩:=cu.1 hx
  have:=h.last y hy
  grind [oW]
 ·intro x hx;obtain⟨y,hy,rfl⟩:=cu.1 hx;exact h.name y hy
theorem Nj{l:Y (Bs×cN)}{x:Bs×cN}(h:x∈l):x.2.data.length<=iq l:=by
 obtain⟨A,B,rfl⟩:=List.append_of_mem h
 grind [tY,nu]
theorem ZN(jM:ae):
 TR be G 29 #[bu D,.int .i64 jM] [lz D s] (dC λv B=>v=.int .i64 0/\B=[lz D (s.jU jM)]):=by
 refine bZ U λb O hb hG=>?_
 refine X.ej D λM dq fs eI kl=>?_
 have j7:(fs.map (·.1)).Nodup:=bq3
 have hcapB:s.used<=4194304:=bo eI.le eI.cap
 have Nf:=eI.yA
 refine xS ?_
 refine tj U U U λr=>xS ?_
 obtain⟨kp,Ty⟩:∃k,k=jM.toNat:=⟨_,U⟩
 refine X.loop (ι:={p:Y (Bs×aR)×ah (Bs×aR)×ab // p.1.Sublist (ft fs)/\p.2.2=iq (oU (cr kp p.1 fs))/\p.2.2<=s.used}) (λp=>([(0,bu D),(1,.int .i64 jM),(4,.int .i64 0),(11,bu r)],[If bn r M (ft fs) p.1.1 p.1.2.1,bx D 74 (DH.cs M {fP s dq with used:=p.1.2.2}),dZ ((cr kp p.1.1 fs).map fA)])) (λp=>p.1.1.length) ⟨(ft fs,aO,s.used),List.Sublist.refl _,by grind [ZK],bz _⟩ (Sub.of U) (by dsimp only;rw[ZK];exact bS.refl _) ?_
 rintro⟨⟨S,lJ,u⟩,hS,hu,ZO⟩ ih
 dsimp only at hS hu ZO ih ⊢
 refine xS ?_
 refine yG U U U (λhS0=>?_) (λi hi=>?_)
 ·subst hS0;refine xS ?_;refine BW r ?_;rw[ZL,kl]at hu;have hfm:=aB6 kp [] fs;have nC:oU (cr kp [] fs)=(s.jU jM).files:=by rw[ZL,kl,Ty];rfl
  refine xS ?_;refine X.ret hb (.tmps U) ⟨_,⟨U,U⟩,?_⟩;rw[<-hfm];have yN:=rZ (D:=D) (M:=M) (s:=s.jU jM) (dq:=dq) (fs:=cr kp [] fs) (eI.jU jM) nC (H:=[bx D 74 (DH.cs M (fP (s.jU jM) dq)),mp bn M (ft (cr kp [] fs)),dZ ((cr kp [] fs).map fA)]);refine bS.trans ?_ yN;have hdh:DH.cs M (fP (s.jU jM) dq)=[.int .i64 (fP s dq).cap,.int .i64 u,.map (aN M),.int .i64 (fP s dq).dq,.int .i64 0,.int .i64 0,.bool (fP s dq).done,.bool aQ]:=by
   rw[hu,Ty];rfl
  rw[hdh];exact bA
 ·obtain⟨pre,post,fb,f,hSi,hfmem,hcr,hcr'⟩:=aB7 kp S i hi fs hS j7;have hfm2:(S[i].1,f)∈s.files:=by rw[<-kl];exact cu.2 ⟨_,hfmem,U⟩
  have ZP:=eI.last _ hfm2;have hflen:=Nj hfm2;dsimp only at ZP hflen;have Vf:(S.eraseIdx i).Sublist (ft fs):=(List.eraseIdx_sublist S i).trans hS;have qx:(S.eraseIdx i).length<S.length:=bQ;rw[hcr];rw[hcr,pG,tY,nu]at hu;dsimp only at hu;have hu2:iq (oU (cr kp (S.eraseIdx i) fs))=iq (oU pre)+((oW kp f).data.length+iq (oU post)):=by
   rw[hcr',pG,tY,nu]
  have hSe:S[i]=(S[i].1,bu fb):=hSi;generalize S.eraseIdx i=S2 at*;refine xS ?_;refine B0 U U U ?_;rw[show S[i].2=bu fb from by rw[hSe]];generalize S[i].1=name at*;generalize S[i]=pd at*;refine xS ?_;refine Da pre post name fb f λa c=>?_;refine fU 18 [0] ?_;refine xL [0,1,2,3,4,5,6,7,8,9,10,11,12,13,14,15,16,17] ?_;refine xS ?_;obtain⟨m,hm⟩:∃m,m=(oW kp f).last:=⟨_,U⟩;have PC:(oW kp f).data=f.data.take m:=by rw[hm];rfl
  have hm':m=f.last+min kp (f.data.length - f.last):=hm;have hml:m<=f.data.length:=bw;have uD:oW kp f=⟨f.data.take m,m⟩:=by rw[hm];rfl
  rw[show(f.last:ae)+(if(f.data.length:ae) - (f.last:ae)<(if jM<0 then 0 else jM)then(f.data.length:ae) - (f.last:ae)else(if jM<0 then 0 else jM))=(m:ae)from by omega];refine fG (sG [0,1,2,3,4,5,6,7,8,9,10,11,12,13,14]) [bx D 74 [.int .i64 (fP s dq).cap,.int .i64 u,.map (aN M),.int .i64 (fP s dq).dq,.int .i64 (fP s dq).iu,.int .i64 (fP s dq).fK,.bool (fP s dq).done,.bool (fP s dq).down],bx fb 78 [.slice a f.data.length c,.int .i64 m]] U ?_;refine xL [0,1,2,3,4,5,6,7,8,9,10,11,12,13,14] ?_;refine xS ?_;refine fG (sG [0,1,2,3,4,5,6,7,8,9,10,11,12]) [bx fb 78 [.slice a f.data.length c,.int .i64 m]] U ?_;refine xL [0,1,2,3,4,5,6,7,8,9,10,11,12] ?_;refine xS ?_;refine X5 U U U U U U U hml (xS ?_);refine L3 m (a:=a) hml ?_;rw[AO];have hu9:=@pz pre post name fb ⟨f.data.take m,m⟩ a m;dsimp only at hu9;rw[show(f.data.take m).length=m from by simp;omega]at hu9;rw[PC,dG]at hu2;rw[uD]at hcr';rw[show((u:ae) - ((f.data.length:ae) - (m:ae)))=((u - (f.data.length - m):ab):ae)from by omega];refine X.less (ih ⟨(S2,aN pd,u - (f.data.length - m)),Vf,by grind,by grind⟩ qx) (Sub.of U) ?_;dsimp only;rw[hcr'];refine bS.trans (bS.es (A:=[bx fb 78 [.slice a m m,.int .i64 m],own 5 1 a m m ((f.data.take m).map gT),dZ ((pre++post).map fA)])) ?_;refine bS.trans (hu9 _) ?_;exact ZH
def AP:Rp ca:=⟨λr l x=>∃a c,l=[bn x.name,.slice a x.data.length c]/\(x.data.length<=c/\(a=aO->x.data.length=0/\c=0)/\xm RB 1 a x.data r),λhr ⟨a,c,h1,h2,h3,h4⟩=>⟨a,c,h1,h2,h3,h4.mono hr⟩⟩
theorem SP{b:bc}{O:de}{k:Kt}{E:Env}{H:Y bG}{R:aZ->Y bG->Prop}{cc:ah (ar aW×Y aW)}{sz o:ab}(bl:ab){x:ca}[hf:Fj H bl AP sz o x]
 (h:∀a c,x.data.length<=c->(a=aO->x.data.length=0/\c=0)->X be b O cc k E (el (cy (λ_:aA=>[bn x.name,.slice a x.data.length c])) sz bl o ()::dp RB 1 a x.data::H) R):X be b O cc k E H R:=
 aS6 bl (Re:=AP) (x:=x) (ι:={p:ah aX×ab // x.data.length<=p.2/\(p.1=aO->x.data.length=0/\p.2=0)}) (λp=>[bn x.name,.slice p.1.1 x.data.length p.1.2]) (λp=>xm RB 1 p.1.1 x.data) (λp r r' hr h=>h.mono hr)
  (λr l ⟨a,c,h1,h2,h3,h4⟩=>⟨⟨(a,c),h2,h3⟩,h1,h4⟩) (λp=>h p.1.1 p.1.2 p.2.1 p.2.2)
theorem aB8(name:Bs)(sl:aR)(qN:cl sl=aN [sl]):TR be G 22 #[.agg #[bn name,sl]] [] (dX (.bool (!eO name))):=by
 refine dH U λb O hb hG=>?_;refine xP ?_;intro b1;exact xR
theorem Vn(xs:Y ca)(hn:xs.length=n)(hs:n<=1099511627776):
 TR be G 61 #[.slice a n c,.func (.func 22) #[] #[]] [dp AP 2 a xs] (dX (bR (dM (λx:ca=> !eO x.name) 0 xs))):=by
 refine bZ U λb O hb hG=>xS ?_
 refine fR [0,1] [] (ι:={i:ab // i<=n/\dM (λx:ca=> !eO x.name) 0 xs=dM (λx:ca=> !eO x.name) i (xs.drop i)}) (λi q_=>(7,bR n)::(8,bR i.1)::q_) (λi q_=>q_) (λi=>n - i.1) ⟨0,bp _,U⟩ ?_
 rintro⟨i,hi,hE⟩ ih
 dsimp only
 refine xB ?_ ?_<;>intro h
 ·have hi:i<xs.length:=bQ;refine xS ?_;refine dJ U U U U U hi hn λbl o=>?_;rw[ky _ xs i hi]at hE;generalize xs[i]=x at*;refine SP bl λa1 c1 Fu D7=>xS ?_;refine eT U U U U (xS ?_);refine oN (fst:=[]) (us:=[.agg #[bn x.name,.slice a1 x.data.length c1]]) (cap:=[]) hG (aB8 G x.name (.slice a1 x.data.length c1) U) U U U U  ?_;refine xB ?_ ?_<;>intro h2
  ·exact bH4
  ·exact aZ8
 ·exact U5
theorem QI(xs:Y ca)(hn:xs.length=n)(hs:n<=1099511627776):
 TR be G 21 #[.slice a n c,.func (.func 22) #[] #[]] [dp AP 2 a xs] (dX (.bool (xs.any λx=> !eO x.name))):=by
 refine bZ U λb O hb hG=>?_
 refine xJ (Vn G a n c xs hn hs) ?_
 exact cT hb (.tmps U) ⟨by grind [mv,AJ],U⟩
def laid:Y ca->Y (Bs×cN)->ah (Y (Bs×cN))
 |[],l=>aN l
 |x::r,l=>if x.name∈l.map (·.1)then aO else laid r (l++[(x.name,⟨x.data,x.data.length⟩)])
def mh(cap:ae)(l:Y ca):ah cd×ae:=
 if cap<0\/cap>4194304\/l.length>200\/l.any (λx=> !eO x.name)=aP then(aO,70)
 else match laid l []with
  |none=>(aO,72)
  |some fs=>if iq fs>cap.toNat then(aO,73)else(aN ⟨cap.toNat,iq fs,fs,0,0,aQ,aQ⟩,0)
def bH5(p:ah cd×ae)(v:aR)(B:Y bG):Prop:=match p with
 |(aO,e)=>v=.tuple #[.pointer aO,.int .i64 e]/\B=[]
 |(aN s,e)=>∃D,v=.tuple #[bu D,.int .i64 e]/\B=[lz D s]
theorem bq6(cap:ae)(a:ah aX)(n c:ab)(xs:Y ca)(hn:xs.length=n)(hs:n<=1099511627776)(hb:∀x∈xs,x.data.length<=1000000000000):
 TR be G 8 #[.int .i64 cap,.slice a n c] [dp AP 2 a xs] (dC (bH5 (mh cap xs))):=by
 refine bZ U λb O nA hG=>?_
 have bad:∀{N vs k H},(cap<0\/cap>4194304\/xs.length>200\/xs.any (λx=> !eO x.name)=aP)->lk vs 4=aN (.pointer aO)->lk vs 5=aN (.int .i64 70)->X be b O aO (.it (.code .ret::k)) ⟨N,vs,[]⟩ H (dC (bH5 (mh cap xs))):=by
  intro N vs k H he h1 h2;exact X.ret nA (.tmp h1 (.tmp h2 .nil)) ⟨[],by unfold mh;rw[ao he];exact⟨U,U⟩,bS.nil _⟩
 refine yT 11 (cap<0) (¬cap<0) ?_ ?_<;>intro h1
 ·refine xS ?_;exact bad (.inl h1) U U
 ·refine yT 15 (cap>4194304) (¬cap>4194304) ?_ ?_<;>intro h2
  ·refine xS ?_;exact bad (.inr (.inl h2)) U U
  ·refine yT 20 (n>200) (¬n>200) ?_ ?_<;>intro h3
   ·refine xS ?_;exact bad (.inr (.inr (.inl bw))) U U
   ·refine xJ (QI G a n c xs hn hs) ?_;refine xB ?_ ?_<;>intro h4
    ·refine xS ?_;exact bad (.inr (.inr (.inr h4))) U U
    ·have e0:mh cap xs=match laid xs []with
      |none=>((aO,72):ah cd×ae)
      |some fs=>if iq fs>cap.toNat then(aO,73)else(aN ⟨cap.toNat,iq fs,fs,0,0,aQ,aQ⟩,0):=by
      grind [mh]
     have uB:∀x∈xs,eO x.name=aP:=by
      grind
     obtain⟨cp,rfl⟩:∃k:ab,cap=k:=⟨cap.toNat,by omega⟩;rw[gS]at e0;clear bad;refine xS ?_;refine sP bn U U λM=>?_;refine xP ?_;intro D;refine X.dE (Hs':=[dp AP 2 a xs,bx D 74 [.int .i64 cp,.int .i64 0,.map (aN M),.int .i64 0,.int .i64 0,.int .i64 0,.bool aQ,.bool aQ],mp bn M [],dZ []]) ((bA (A:=[bx D 74 [.int .i64 cp,.int .i64 0,.map (aN M),.int .i64 0,.int .i64 0,.int .i64 0,.bool aQ,.bool aQ],mp bn M [],dp AP 2 a xs])).trans ((iE [] _).trans (ew ?_))) ?_
     ·refine(cH (l₁:=[_]) (l₂:=[_,_,_])).trans ?_;refine(cH (l₁:=[_,_]) (l₂:=[_,_])).trans ?_;exact(iJ _ (cH (l₁:=[_]) (l₂:=[_,_])))
     refine X.loop (ι:={p:ab×qt // p.1<=n/\laid xs []=laid (xs.drop p.1) (oU p.2)/\iq (oU p.2)<=p.1*1000000000000/\((oU p.2).map (·.1)).Nodup/\∀x∈oU p.2,x.2.last<=x.2.data.length/\eO x.1=aP}) (λp=>([(0,.int .i64 cp),(6,bu D),(28,.slice a n c),(29,.int .i64 n),(30,.int .i64 p.1.1)],
      [dp AP 2 a xs,bx D 74 [.int .i64 cp,.int .i64 (iq (oU p.1.2):ab),.map (aN M),.int .i64 0,.int .i64 0,.int .i64 0,.bool aQ,.bool aQ],mp bn M (ft p.1.2),dZ (p.1.2.map fA)])) (λp=>n - p.1.1) ⟨(0,[]),bp _,U,by decide,List.nodup_nil,λx hx=>by cases hx⟩ (Sub.of U) (bS.refl _) ?_
     rintro⟨⟨i,fs⟩,hi,hE,iP,j7,Dx⟩ ih;dsimp only at hi hE iP j7 Dx ih ⊢;refine yB (i<xs.length) (i=xs.length) ?_ ?_<;>intro gj
     ·have mX:=uB _ (bE gj);have hx3:=hb _ (bE gj);rw[bP gj]at hE;refine xS ?_;refine dJ U U U U U gj hn λbl o=>?_;generalize xs[i]=x at*;refine SP bl λa1 c1 Fu D7=>xS ?_;refine eT U U U U  ?_;refine xA ?_;intro b8;refine fU 8 [5,6,0] ?_;apply dB [0,1,2,3,4,5,6,7] U U U
      ·intro p hp;refine xS ?_;refine tP x.name U U U U ?_;rw[xv];refine xS ?_;exact hp
      ·rfl
      ·rfl
      refine xS ?_;rw[laid]at hE;cases hd:lK fs x.name with
      |some y=>
       obtain⟨pre,post,XB,_⟩:=kW hd;rw[ao bq2]at hE;rw[hE]at e0;dsimp only[pv,cO];exact aZ9
      |none=>
       have hnn:=rH hd
       rw[aj bq2]at hE
       dsimp only[pv,Option.map_none]
       refine xS ?_
       refine ph [0,1,2,3,4,5,6,7,9,10,11] [5,0] ?_
       refine xL [0,1,2,3,4,5,6,7,9,10,11] ?_
       refine xS ?_
       refine Kl a1 ?_
       refine cP (FU G a1 x.data.length c1 x.data U bw D7) ?_
       rintro v B ⟨a8,c8,rfl,rfl⟩
       refine xD ?_
       refine xP ?_
       intro fb
       refine rM x.name dy U U U U ?_
       rw[Nh hnn fb ⟨x.data,x.data.length⟩]
       refine xS ?_
       have hsum2:iq (oU (fs++[(x.name,fb,⟨x.data,x.data.length⟩)]))=iq (oU fs)+x.data.length:=by
        grind [oU,iq]
       have hbnd:iq (oU fs)<=1000000000000000:=bw
       refine fU 8 [8,3] ?_
       refine xL [0,1,2,3,4,5,6,7] ?_
       refine xS ?_
       rw[show((iq (oU fs):ab):ae)+(x.data.length:ae)=((iq (oU (fs++[(x.name,fb,⟨x.data,x.data.length⟩)])):ab):ae)from by omega]
       refine X.less (ih ⟨(i+1,fs++[(x.name,fb,⟨x.data,x.data.length⟩)]),by omega,by grind [oU],by grind,?_,?_⟩ oQ) (MN U U U U (dI U dW)) ?_
       ·grind [cK,tX]
       ·grind [oU]
       ·dsimp only;refine bS.trans (bS.es (A:=[bx fb 78 [.slice a8 x.data.length c8,.int .i64 x.data.length],own 5 1 a8 x.data.length c8 (x.data.map gT),dZ (fs.map fA)])) ?_;refine bS.trans (IM (f:=⟨x.data,x.data.length⟩) _) ?_;refine bS.trans (L9 fs (x.name,fb,⟨x.data,x.data.length⟩) _) ?_;exact ZH
     ·subst gj;rw[List.drop_length,laid]at hE;rw[hE]at e0;dsimp only at e0;have hbnd:iq (oU fs)<=1000000000000000:=bw;refine xB ?_ ?_<;>intro h6
      ·rw[ao bQ]at e0;exact aZ9
      ·have h6:iq (oU fs)<=cp:=bQ;rw[aj bw]at e0;refine xS ?_;refine X.ret nA (.tmps U) ⟨_,by rw[e0];exact⟨D,U,U⟩,?_⟩;have yN:=rZ (D:=D) (M:=M) (dq:=0) (s:=⟨cp,iq (oU fs),oU fs,0,0,aQ,aQ⟩) (fs:=fs) ⟨j7,U,h6,by grind,bp _,bp _,λy hy=>(Dx y hy).1,λy hy=>(Dx y hy).2⟩ U
        (H:=[bx D 74 (DH.cs M (fP ⟨cp,iq (oU fs),oU fs,0,0,aQ,aQ⟩ 0)),mp bn M (ft fs),dZ (fs.map fA)])
       rw[show DH.cs M (fP ⟨cp,iq (oU fs),oU fs,0,0,aQ,aQ⟩ 0)=[.int .i64 cp,.int .i64 (iq (oU fs):ab),.map (aN M),.int .i64 0,.int .i64 0,.int .i64 0,.bool aQ,.bool aQ]from rfl]at yN;exact bS.trans bA yN
end
section
variable{cs:ar aR}{g:ab}(G:dA)(n:ab)
def uN(s p:Bs):ai:=decide (p.length<=s.length)&&(s.take p.length==p)
def r7(s p:Bs):ai:=decide (p.length<=s.length)&&(s.drop (s.length - p.length)==p)
instance by9(s p:Bs):FJ be 389 [bn s,bn p] [] (.bool (uN s p)):=⟨λG=>by
 refine bZ U λb O hb hG=>?_;refine yT 10 (p.length<=s.length) (¬p.length<=s.length) ?_ ?_<;>intro h
 ·refine xS ?_;refine lO U U U Bd.no (Bd.at U U) (bp _) h (xS ?_);exact cT hb (.tmps U) ⟨by simp[mv,uN,h],U⟩
 ·refine xS ?_;exact cT hb (.tmps U) ⟨by simp[mv,uN,h],U⟩⟩
theorem Cj(s p:Bs)(hs:s.length<=1000000000000):TR be G 291 #[bn s,bn p] [] (dX ((.bool (r7 s p)))):=by
 refine bZ U λb O hb hG=>?_;refine yT 10 (p.length<=s.length) (¬p.length<=s.length) ?_ ?_<;>intro h
 ·refine xS ?_;refine lO (l:=s.length - p.length) U U U (Bd.at U bw) Bd.no (Nat.sub_le _ _) (bz _) ?_;rw[bI dW];exact a00
 ·exact a00
theorem QJ{s p:Bs}(h:uN s p=aP):p.length<=s.length:=by grind [uN]
theorem QL{s p:Bs}(h:r7 s p=aP):p.length<=s.length:=by grind [r7]
def mB(s p:Bs):Bs×ai:=if uN s p=aP then(s.drop p.length,aP)else(s,aQ)
def kP(s p:Bs):Bs×ai:=if r7 s p=aP then(s.take (s.length - p.length),aP)else(s,aQ)
instance bA0(s p:Bs):FJ be 292 [bn s,bn p] [] (.tuple #[bn (mB s p).1,.bool (mB s p).2]):=⟨λG=>by
 refine bZ U λb O hb hG=>?_;unfold mB;refine yB (¬uN s p=aP) (uN s p=aP) ?_ ?_<;>intro h
 ·rw[aj h];exact xR
 ·rw[ao h];have hl:=QJ h;refine xS ?_;refine lO (l:=p.length) U U U (Bd.at U U) Bd.no hl (bz _) ?_;rw[bI dW];refine xS ?_;exact cT hb (.tmps U) ⟨U,U⟩⟩
theorem Vo(s p:Bs)(hs:s.length<=1000000000000):TR be G 293 #[bn s,bn p] [] (dX ((.tuple #[bn (kP s p).1,.bool (kP s p).2]))):=by
 refine bZ U λb O hb hG=>?_;unfold kP;refine xJ (Cj G s p hs) ?_;refine yB (¬r7 s p=aP) (r7 s p=aP) ?_ ?_<;>intro h
 ·rw[aj h];exact xR
 ·exact a01
theorem QM(s p:Bs)(hs:s.length<=1000000000000):TR be G 467 #[bn s,bn p] [] (dX ((bn (kP s p).1))):=by
 refine bZ U λb O hb hG=>?_;unfold kP;refine xJ (Cj G s p hs) ?_;refine xB ?_ ?_<;>intro h
 ·exact a01
 ·have h:¬r7 s p=aP:=bQ;rw[aj h];exact xR
theorem aB9(s p:Bs)(hs:s.length<=1000000000000):TR be G 182 #[bn s,bn p] [] (dX ((.bool (r7 s p)))):=by
 refine bZ U λb O hb hG=>?_;refine xJ (Cj G s p hs) ?_;exact xR
instance bR8(s p:Bs):FJ be 393 [bn s,bn p] [] (.bool (uN s p)):=⟨λG=>by
 refine bZ U λb O hb hG=>xS ?_;exact cT hb (.tmps U) ⟨U,U⟩⟩
instance bR9(s p:Bs):FJ be 183 [bn s,bn p] [] (.tuple #[bn (mB s p).1,.bool (mB s p).2]):=⟨λG=>by
 refine bZ U λb O hb hG=>xS ?_;exact cT hb (.tmps U) ⟨U,U⟩⟩
theorem aC0(s p:Bs)(hs:s.length<=1000000000000):TR be G 184 #[bn s,bn p] [] (dX ((.tuple #[bn (kP s p).1,.bool (kP s p).2]))):=by
 refine bZ U λb O hb hG=>?_;refine xJ (Vo G s p hs) ?_;exact xR
theorem aC1(s p:Bs)(hs:s.length<=1000000000000):TR be G 399 #[bn s,bn p] [] (dX ((bn (kP s p).1))):=by
 refine bZ U λb O hb hG=>?_;refine xJ (QM G s p hs) ?_;exact xR
theorem ZQ(hn:n<=8):TR be G 464 #[.int .u64 1,.int .u64 n] [] (dX (.tuple #[.int .u64 0,.int .u64 n])):=by
 have:n=0\/n=1\/n=2\/n=3\/n=4\/n=5\/n=6\/n=7\/n=8:=bw;rcases this with rfl|rfl|rfl|rfl|rfl|rfl|rfl|rfl|rfl;all_goals
  refine bZ U λb O hb hG=>?_
  exact xR
theorem zj(hn:n<=8):TR be G 392 #[.int .u64 1,.int .u64 n] [] (dX (.tuple #[.int .u64 0,.int .u64 n])):=by
 refine bZ U λb O hb hG=>?_;refine xJ (ZQ G n hn) ?_;exact xR
theorem Vp(hn:n<=8):TR be G 295 #[bn [48],.int .i64 n] [] (dX (bn (cQ n 48))):=by
 have h0:n=0\/n=1\/n=2\/n=3\/n=4\/n=5\/n=6\/n=7\/n=8:=bw;rcases h0 with rfl|rfl|h0
 ·refine bZ U λb O hb hG=>?_;exact xR
 ·refine bZ U λb O hb hG=>?_;exact xR
 ·rcases h0 with rfl|rfl|rfl|rfl|rfl|rfl|rfl
  ·refine bZ U λb O hb hG=>?_;refine xJ (zj G 2 eK) ?_;refine jG (l:=[48]) (j:=0) U U U U U (Nat.lt_succ_self 0) (xS ?_);refine lO (s:=cQ 64 48) (h:=2) U U U Bd.no (Bd.at U U) (bp _) eK  ?_;exact xR
  ·refine bZ U λb O hb hG=>?_;refine xJ (zj G 3 eK) ?_;refine jG (l:=[48]) (j:=0) U U U U U (Nat.lt_succ_self 0) (xS ?_);refine lO (s:=cQ 64 48) (h:=3) U U U Bd.no (Bd.at U U) (bp _) eK  ?_;exact xR
  ·refine bZ U λb O hb hG=>?_;refine xJ (zj G 4 eK) ?_;refine jG (l:=[48]) (j:=0) U U U U U (Nat.lt_succ_self 0) (xS ?_);refine lO (s:=cQ 64 48) (h:=4) U U U Bd.no (Bd.at U U) (bp _) eK  ?_;exact xR
  ·refine bZ U λb O hb hG=>?_;refine xJ (zj G 5 eK) ?_;refine jG (l:=[48]) (j:=0) U U U U U (Nat.lt_succ_self 0) (xS ?_);refine lO (s:=cQ 64 48) (h:=5) U U U Bd.no (Bd.at U U) (bp _) eK  ?_;exact xR
  ·refine bZ U λb O hb hG=>?_;refine xJ (zj G 6 eK) ?_;refine jG (l:=[48]) (j:=0) U U U U U (Nat.lt_succ_self 0) (xS ?_);refine lO (s:=cQ 64 48) (h:=6) U U U Bd.no (Bd.at U U) (bp _) eK  ?_;exact xR
  ·refine bZ U λb O hb hG=>?_;refine xJ (zj G 7 eK) ?_;refine jG (l:=[48]) (j:=0) U U U U U (Nat.lt_succ_self 0) (xS ?_);refine lO (s:=cQ 64 48) (h:=7) U U U Bd.no (Bd.at U U) (bp _) eK  ?_;exact xR
  ·refine bZ U λb O hb hG=>?_;refine xJ (zj G 8 eK) ?_;refine jG (l:=[48]) (j:=0) U U U U U (Nat.lt_succ_self 0) (xS ?_);refine lO (s:=cQ 64 48) (h:=8) U U U Bd.no (Bd.at U U) (bp _) eK  ?_;exact xR
def ZR:Y ae:=[0,1,56,2,57,49,28,3,61,58,42,50,38,29,17,4,62,47,59,36,45,43,51,22,53,39,33,30,24,18,12,5,63,55,48,27,60,41,37,16,46,35,44,21,52,32,23,11,54,26,40,15,34,20,31,10,25,14,19,9,13,8,7,6]
def ZS:Y ae:=[1,10,100,1000,10000,100000,1000000,10000000,100000000,1000000000,10000000000,100000000000,1000000000000,10000000000000,100000000000000,1000000000000000,10000000000000000,100000000000000000,1000000000000000000,10000000000000000000]
def sY:Y Bs:=[[],[],[115,101,103,45],[46,108,111,103],[115,101,103,45],[46,104,105,110,116],[98,97,100,45],[46,98,105,110]]
structure GGp(r:Hp):Prop where
 tz:D4 r 11 0 (ZR.map λx=>.int .u8 x)
 p10:D4 r 5 0 (ZS.map λx=>.int .u64 x)
 ZT:D4 r 3 0 (sY.map bn)
 sp:∃t f,r 0=aN (.cells (Lib.asciiSpaceTab.map λz=>gf .u8 z).toArray t f)
 bq7:∃t f,r 5=aN (.cells (Lib.pow10Tab.map λz=>gf .u64 z).toArray t f)
 e8:∃t p,D4 r 8 0 [.iface t p]
 e9:∃t p,D4 r 9 0 [.iface t p]
 e1:D4 r 1 0 [.iface 301 (.agg #[.pointer (aN ⟨13,62,aO⟩)])]
def GG:dA:=⟨GGp,λhr h=>⟨h.tz.mono hr,h.p10.mono hr,h.ZT.mono hr,(let⟨t,f,q⟩:=h.sp;⟨t,f,hr _ _ q⟩),(let⟨t,f,q⟩:=h.bq7;⟨t,f,hr _ _ q⟩),(let⟨t,p,q⟩:=h.e8;⟨t,p,q.mono hr⟩),(let⟨t,p,q⟩:=h.e9;⟨t,p,q.mono hr⟩),h.e1.mono hr⟩,aQ⟩
instance:XD be 587 64 5:=⟨Tryz.underlying587⟩
instance:XD be 293 4 292:=⟨Tryz.underlying293⟩
instance:XD be 484 65 5:=⟨Tryz.underlying484⟩
theorem aC2:TR be GG 430 #[.int .u64 16] [] (dX (.int .i64 4)):=by
 refine dH U λb O hb hG=>xS ?_;refine Aa (j:=15) U U U U iB eK ?_;refine Mh 11 (0+15) [.int .u8 4] ((D4.sub hG.1.tz (m:=[.int .u8 4]) (i:=15)) ?_) ?_
 ·intro j v hj;match j with
  |0=>simpa[ZR]using hj
  |j+1=>simp at hj
 refine qP U U U 0 U U  ?_;exact xR
theorem bH6:TR be GG 360 #[.int .u64 16] [] (dX (.int .i64 4)):=by
 refine dH U λb O hb hG=>?_;refine xJ aC2 ?_;exact xR
def ji(n:ab):au:=if n<10 then cV (48+n)else cV (87+n)
def KY:ab->ab->Bs
 |0,_=>[]
 |f+1,u=>if u<16 then[ji u]else KY f (u / 16)++[ji (u%16)]
def KZ(u:ab):Bs:=KY 17 u
def d36:Bs:=[48,49,50,51,52,53,54,55,56,57,97,98,99,100,101,102,103,104,105,106,107,108,109,110,111,112,113,114,115,116,117,118,119,120,121,122]
theorem Tz(h:n<16)(h2:n<d36.length):d36[n]=ji n:=by
 have:∀n:Fin 16,d36[n.val]'(Nat.lt_of_lt_of_le n.isLt eK)=ji n.val:=eK;exact this ⟨n,h⟩
theorem Nk(A B:Y aR)(z v:aR):H' A.length (A++z::B) [v]=aN (A++v::B):=by
 induction A with
 |nil=>cases B<;>rfl
 |cons x r ih=>
  grind [H']
section
set_option maxRecDepth 100000
theorem zk{w:aV}{n:aC}(hg:be.globalNamed n=aN g)(hv:w.var? be n=aN cs):∃t f,hp w g=aN (.cells cs t f):=by
 unfold World.var? at hv;rw[hg]at hv;simp only[Option.bind_some]at hv;unfold hp;split at hv
 ·rename_i c t f h;cases hv;exact⟨t,f,h⟩
 ·cases hv
theorem Nl{r:Hp}{l:Y aR}{t:TypeId}{f:ab×ab}(h:r g=aN (.cells cs t f))(hl:cs.toList=l):D4 r g 0 l:=
 ⟨cs,t,f,h,λj v hj=>by rw[bT,<-eE,hl];exact hj⟩
theorem g11:be.globalNamed "math/bits.deBruijn64tab"=aN 11:=iB
theorem g5:be.globalNamed "internal/strconv.uint64pow10"=aN 5:=iB
theorem g1:be.globalNamed "errors.errorType"=aN 1:=iB
theorem g9:be.globalNamed "strconv.ErrRange"=aN 9:=iB
theorem g8:be.globalNamed "strconv.ErrSyntax"=aN 8:=iB
theorem g0:be.globalNamed "strings.asciiSpace"=aN 0:=iB
theorem g3:be.globalNamed "salvor/names.forms"=aN 3:=iB
theorem bU7:(be.globals[11]?).map (·.type)=aN 587:=iB
theorem gt5:(be.globals[5]?).map (·.type)=aN 483:=iB
theorem gt9:(be.globals[9]?).map (·.type)=aN 62:=iB
theorem gt8:(be.globals[8]?).map (·.type)=aN 62:=iB
theorem gt0:(be.globals[0]?).map (·.type)=aN 170:=iB
theorem gt3:(be.globals[3]?).map (·.type)=aN 293:=iB
theorem co5:be.cellsOf 5=1:=iB
theorem bU8:be.cellsOf 87=1:=iB
theorem co9:be.cellsOf 9=1:=iB
theorem bH7:be.cellsOf 292=2:=iB
theorem bH8:be.cellsOf 587=64:=iB
theorem bH9:be.cellsOf 483=20:=iB
theorem bI0:be.cellsOf 170=256:=iB
theorem rt1:(be.cutTypes.find? (·.1== "internal/reflectlite.rtype")).map (·.2)=aN 301:=iB
theorem th1:typeHandle be 62=.pointer (aN ⟨13,62,aO⟩):=iB
theorem tsz:be.types.size=636:=iB
theorem bU9:((List.range 636).filter λt=>be.rowNamed t [101,114,114,111,114])=[62]:=iB
theorem ZU{s:aJ}{l:Bs}(h:s.data.toList=l):Value.string s=bn l:=by
 obtain⟨a⟩:=s;subst h;rfl
def wy:Y (aC×DataW aA):=YtcicblljnenhoaaGreatDoor.Rows.labOnwardRow.laid
theorem Nn{P:aT}{w:aV}:∀{l:Y (aC×DataW aA)} {ps:Y MemPlace},DataW.LaidVars P w l ps->∀{n:aC} {d:DataW aA},(n,d)∈l->∃g t cs fuel p,P.globalNamed n=aN g/\(P.globals[g]?).map (·.type)=aN t/\w.var? P n=aN cs/\DataW.trod (λ_=>()) P w 0 (λ_=>aP) aQ fuel t cs.toList=aN (d,p)
 |[],_,_,_,_,h=>by cases h
 |_::r,_,⟨g,t,cs,fuel,p,q,h1,h2,h3,h4,h5,_⟩,n,d,h=>by
  rcases cW.1 h with h|h
  ·cases h;exact⟨g,t,cs,fuel,p,h1,h2,h3,h4⟩
  ·exact Nn h5 h
open YtcicblljnenhoaaGreatDoor.Rows in
theorem aC3{W:aV}(h:laidMetH be wy W):GGp (hp W):=by
 obtain⟨⟨ps,hL,_⟩,h2⟩:=laidMetH_iff.1 h
 have M:∀{n:aC} {d:DataW aA},(n,d)∈wy->(d.handleName?.isNone=aP)->_:=λhm hn=>Nn hL (eM.2 ⟨hm,hn⟩)
 obtain⟨g1',t1,cs1,u1,p1,hg1,ht1,hv1,Qt⟩:=M (n:= "math/bits.deBruijn64tab") (d:=laid_math_bits_deBruijn64tab) bz9 U
 obtain⟨g2',t2,cs2,u2,p2,hg2,ht2,hv2,Tw⟩:=M (n:= "internal/strconv.uint64pow10") (d:=laid_internal_strconv_uint64pow10) bz9 U
 obtain⟨g4',t4,cs4,u4,p4,hg4,ht4,hv4,hd4⟩:=M (n:= "strconv.ErrRange") (d:=laid_strconv_ErrRange) bz9 U
 obtain⟨g5',t5,cs5,u5,p5,hg5,ht5,hv5,hd5⟩:=M (n:= "strconv.ErrSyntax") (d:=laid_strconv_ErrSyntax) bz9 U
 obtain⟨g7',t7,cs7,u7,p7,hg7,ht7,hv7,hd7⟩:=M (n:= "strings.asciiSpace") (d:=laid_strings_asciiSpace) bz9 U
 obtain⟨g8',t8,cs8,u8,p8,hg8,ht8,hv8,hd8⟩:=M (n:= "salvor/names.forms") (d:=laid_salvor_names_forms) bz9 U
 obtain rfl:=fo (g11.symm.trans hg1)
 obtain rfl:=fo (bU7.symm.trans ht1)
 obtain rfl:=fo (g5.symm.trans hg2)
 obtain rfl:=fo (gt5.symm.trans ht2)
 obtain rfl:=fo (g9.symm.trans hg4)
 obtain rfl:=fo (gt9.symm.trans ht4)
 obtain rfl:=fo (g8.symm.trans hg5)
 obtain rfl:=fo (gt8.symm.trans ht5)
 obtain rfl:=fo (g0.symm.trans hg7)
 obtain rfl:=fo (gt0.symm.trans ht7)
 obtain rfl:=fo (g3.symm.trans hg8)
 obtain rfl:=fo (gt3.symm.trans ht8)
 obtain⟨a1,b1,c1⟩:=zk g11 hv1
 obtain⟨a2,b2,c2⟩:=zk g5 hv2
 obtain⟨a4,b4,c4⟩:=zk g9 hv4
 obtain⟨a5,b5,c5⟩:=zk g8 hv5
 obtain⟨a7,b7,c7⟩:=zk g0 hv7
 obtain⟨a8,b8,c8⟩:=zk g3 hv8
 have e1:(laid_math_bits_deBruijn64tab:DataW aA)=Lib.tabData .u8 ZR:=iB
 have e2:(laid_internal_strconv_uint64pow10:DataW aA)=Lib.tabData .u64 Lib.pow10Tab:=iB
 have e7:(laid_strings_asciiSpace:DataW aA)=Lib.tabData .u8 Lib.asciiSpaceTab:=iB
 rw[e1]at Qt
 rw[e2]at Tw
 rw[e7]at hd7
 have l1:=Lib.cells_of_tab Tryz.underlying587 Tryz.underlying5 co5 bH8 Qt
 have l2:=Lib.cells_of_tab Tryz.underlying483 Tryz.underlying87 bU8 bH9 Tw
 have l7:=Lib.cells_of_tab Tryz.underlying170 Tryz.underlying5 co5 bI0 hd7
 have arr:∀{cs:ar aR} {l:Y aR},cs.toList=l->cs=l.toArray:=λ{cs l} h=>by subst h;simp
 have p10:(Lib.pow10Tab.map λz=>gf .u64 z)=ZS.map λz=>gf .u64 z:=by kernel_rfl
 refine⟨Nl c1 l1,Nl c2 (l2.trans p10),?_,⟨a7,b7,by rw[c7,arr l7]⟩,⟨a2,b2,by rw[c2,arr l2]⟩,?_,?_,?_⟩
 ·
  obtain⟨xs,m,rfl,hx,hlen,hxl,Ia⟩:=DataW.trod_array Tryz.underlying293 hd8
  rw[bH7]at Ia
  have KH:=aH Prod.fst hx
  have KH:(laid_salvor_names_forms:DataW aA)=.agg (xs.map (·.1)):=KH
  unfold laid_salvor_names_forms at KH
  match xs,hxl,KH,Ia with
  |[x0,x1,x2,x3],_,KH,Ia=>
   simp only[bN,jo,DataW.agg.injEq,List.cons.injEq,and_true]at KH;obtain⟨y0,y1,y2,y3⟩:=KH;have two:∀(i:ab) (x:DataW aA×Y MemPlace) (a b:Bs),DataW.trod (λ_=>()) be W 0 (λ_=>aP) aQ m 292 ((cs8.toList.drop (i*2)).take 2)=aN x->(.agg [.lit (.string a),.lit (.string b)]:DataW aA)=x.1->cs8.toList[i*2]?=aN (bn a)/\cs8.toList[i*2+1]?=aN (bn b):=by
    intro i x a b hd hx;obtain⟨zs,n,rfl,rfl,qx,hz,hf⟩:=DataW.trod_struct Tryz.underlying292 hd;have f0:DataW.trod (λ_=>()) be W 0 (λ_=>aP) aQ n 9 (List.take (be.cellsOf 9) (List.drop 0 (List.take 2 (List.drop (i*2) cs8.toList))))=zs[0]?:=hf 0 _ U;have f1:DataW.trod (λ_=>()) be W 0 (λ_=>aP) aQ n 9 (List.take (be.cellsOf 9) (List.drop 1 (List.take 2 (List.drop (i*2) cs8.toList))))=zs[1]?:=hf 1 _ U;rw[co9]at f0 f1;match zs,hz,hx,f0,f1 with
    |[z0,z1],_,hx,f0,f1=>
     simp only[bN,jo,DataW.agg.injEq,List.cons.injEq,and_true]at hx;obtain⟨s0,ZV,hz0,_⟩:=DataW.trod_string gD f0;obtain⟨s1,Es,HX,_⟩:=DataW.trod_string gD f1;subst hz0 HX;simp only[DataW.lit.injEq,Lit.string.injEq]at hx;have k0:=aH (λl=>l[0]?) ZV;have k1:=aH (λl=>l[0]?) Es;simp only[List.getElem?_take,List.getElem?_drop,List.getElem?_cons_zero]at k0 k1;refine⟨?_,?_⟩
     ·rw[<-ZU hx.1.symm];simpa using k0
     ·rw[<-ZU hx.2.symm];simpa[Nat.add_comm]using k1
   obtain⟨w0,v0⟩:=two 0 x0 _ _ (Ia 0 eK) y0;obtain⟨w1,v1⟩:=two 1 x1 _ _ (Ia 1 eK) y1;obtain⟨w2,v2⟩:=two 2 x2 _ _ (Ia 2 eK) y2;obtain⟨w3,v3⟩:=two 3 x3 _ _ (Ia 3 eK) y3;refine⟨cs8,a8,b8,c8,λj v hj=>?_⟩;rw[bT,<-eE];match j,hj with
   |0,hj=>rw[w0];exact hj
   |1,hj=>rw[v0];exact hj
   |2,hj=>rw[w1];exact hj
   |3,hj=>rw[v1];exact hj
   |4,hj=>rw[w2];exact hj
   |5,hj=>rw[v2];exact hj
   |6,hj=>rw[w3];exact hj
   |7,hj=>rw[v3];exact hj
   |j+8,hj=>simp[sY]at hj
 ·obtain⟨_,u,v,hc,_,_⟩:=iface_of_trod Tryz.underlying62 hd5;exact⟨u,v,Nl c5 hc⟩
 ·obtain⟨_,u,v,hc,_,_⟩:=iface_of_trod Tryz.underlying62 hd4;exact⟨u,v,Nl c4 hc⟩
 ·obtain⟨name,u,ty,e1,e2,e3,e4,e5⟩:=h2 ("errors.errorType",laid_errors_errorType) (eM.2 ⟨by unfold wy labOnwardRow;repeat(first|exact List.mem_cons_self|apply List.mem_cons_of_mem),rfl⟩);have en:name=[101,114,114,111,114]:=(fo e1).symm;subst en;obtain rfl:=fo (rt1.symm.trans e2);have hm:ty∈(List.range 636).filter λt=>be.rowNamed t [101,114,114,111,114]:=eM.2 ⟨List.mem_range.2 (by rw[<-tsz];exact e3),e4⟩;rw[bU9]at hm;obtain rfl:=cK.1 hm;rw[th1]at e5;obtain⟨a,b,c⟩:=zk g1 e5;exact Nl c U
end
end
end Go.Proofs
namespace Go.Proofs
open Go Go.Sl YtcicblljnenhoaaGreatDoor
set_option maxRecDepth 8000
section
set_option maxRecDepth 100000
def lc:DataW aA->Y aR
 |.lit (.int k z)=>[.int k z]
 |.lit (.string b)=>[.string ⟨b.toArray⟩]
 |_=>[]
def lc2:DataW aA->Y aR
 |.agg l=>l.flatMap lc
 |d=>lc d
def lc3:DataW aA->Y aR
 |.agg l=>l.flatMap lc2
 |d=>lc d
def Ea(cs:Y aR):Obj->Obj
 |.cells _ t f=>.cells cs.toArray t f
 |o=>o
def bV0(l:Y ae):Y aR:=l.map λz=>.int .u16 z
open YtcicblljnenhoaaGreatDoor.Rows in
noncomputable def lw(os:Os):aV:=
 let w0:=World.holding be os ⟨#[],#[],[]⟩
 {w0 with heap:=((((((((((((((((w0.heap.modify 0 (Ea (lc3 laid_strings_asciiSpace))).modify 1 (Ea [.iface 301 (.agg #[.pointer (aN ⟨13,62,aO⟩)])])).modify 2 (Ea [.pointer (aN ⟨21,0,aO⟩)])).modify 3 (Ea (lc3 laid_salvor_names_forms))).modify 5 (Ea (lc3 laid_internal_strconv_uint64pow10))).modify 6 (Ea (lc3 laid_unicode_utf8_first))).modify 7 (Ea (lc3 laid_unicode_utf8_acceptRanges))).modify 8 (Ea [.iface 583 (.pointer (aN ⟨19,0,aO⟩))])).modify 9 (Ea [.iface 583 (.pointer (aN ⟨18,0,aO⟩))])).modify 10 (Ea (lc3 laid_math_bits_deBruijn32tab))).modify 11 (Ea (lc3 laid_math_bits_deBruijn64tab))).modify 12 (Ea [.pointer (aN ⟨21,0,aO⟩)])).push (.cells #[bn [118,97,108,117,101,32,111,117,116,32,111,102,32,114,97,110,103,101]] 585 (0,0))).push (.cells #[bn [105,110,118,97,108,105,100,32,115,121,110,116,97,120]] 585 (0,0))).push (.cells (bV0 [9,13,1,32,133,101,160,5760,5600,8192,8202,1,8232,8233,1,8239,8287,48,12288,12288,1]).toArray 375 (0,0))).push (.cells #[.slice (aN ⟨20,0,aO⟩) 7 7,.slice aO 0 0,.int .i64 2] 372 (0,0)))}
noncomputable abbrev lm(os:Os)(args:ar aR):aV:=(lw os).forCall (λ_ _=>0) ⟨#[],args,[]⟩
end
end Go.Proofs
namespace Go.Proofs
open Go.Sl
open Go.ChangeShapes Go.WideShapes Go.RowKit
set_option maxRecDepth 8000
section
set_option maxRecDepth 100000
theorem bV1:ownKnob be.godebug=aO:=iB
end
end Go.Proofs
namespace Go.Proofs
open Go.Sl
set_option maxRecDepth 8000
section
variable{cs:Y aR}{rs H:Y bG}{O:de}{w:aV}{x:aR}(G:dA)(bl:ab)(l:Y au)
abbrev L8:Go.Conc.Locks.MuLink:={lock:=70,unlock:=71,ilock:=132,iunlock:=133,lockSlow:=197,unlockSlow:=200,disable:=193,enable:=195,acquire:=196,relMerge:=198,cas32:=194,add32:=199,tMutex:=143,tIMutex:=141,tPMutex:=205,tPIMutex:=313,tPI32:=315,tUP:=173,tNoCopy:=138,tU32:=139}
theorem E7:Go.Conc.Locks.MuLib be L8:=
 ⟨Tryz.func70,Tryz.func71,Tryz.func132,Tryz.func133,Tryz.func193,Tryz.func195,Tryz.func196,Tryz.func198,Tryz.func194,Tryz.func199,Tryz.underlying141,Tryz.runUnderlying141,Tryz.sizeOf141,Tryz.isAgg141,Tryz.zeroValue141,Tryz.underlying143,Tryz.runUnderlying143,Tryz.sizeOf143,Tryz.isAgg143,Tryz.zeroValue143,Tryz.underlying205,Tryz.runUnderlying205,Tryz.sizeOf205,Tryz.isAgg205,Tryz.zeroValue205,Tryz.underlying313,Tryz.runUnderlying313,Tryz.sizeOf313,Tryz.isAgg313,Tryz.zeroValue313,Tryz.underlying315,Tryz.runUnderlying315,Tryz.sizeOf315,Tryz.isAgg315,Tryz.zeroValue315,Tryz.underlying173,Tryz.runUnderlying173,Tryz.sizeOf173,Tryz.isAgg173,Tryz.zeroValue173,Tryz.underlying138,Tryz.runUnderlying138,Tryz.sizeOf138,Tryz.isAgg138,Tryz.zeroValue138,Tryz.underlying21,Tryz.runUnderlying21,Tryz.sizeOf21,Tryz.isAgg21,Tryz.zeroValue21,iB⟩
theorem z'{b ty:ab}{y:aR}(h:Sat O (bx b ty (x::cs)::H) w):Sat O (bx b ty (y::cs)::H) (w.setCell ⟨b,0,aO⟩ y):=by
 have hb:=fF h;refine Sat.put h ⟨U,U,U,by simp[World.setCell],λ_=>bz _⟩ ?_ ?_;all_goals grind [World.setCell]
theorem IG{b ty:ab}(h:Sat O (bx b ty (x::cs)::H) w):w.cell? ⟨b,0,aO⟩=aN x/\w.frozen? ⟨b,0,aO⟩=aQ:=by
 have hb:=fF h
 grind [gl,World.frozen?]
theorem aC6(b ty:ab)(cs:Y aR):TR be G 70 #[bu b] [bx b ty (.int .i32 0::cs)] (dC λv B=>v=.tuple #[]/\B=[bx b ty (.int .i32 1::cs)]):=by
 intro O w _ hs;obtain⟨h1,h2⟩:=IG hs;refine(Go.MuLone.lock_free E7 ⟨b,0,aO⟩ w h1 h2).mono ?_;rintro e w' ⟨rfl,rfl⟩;exact⟨_,⟨U,U⟩,z' hs⟩
theorem Vs(b ty:ab)(cs:Y aR):TD be G 71 (([bu b]:Y aR)++[]).toArray [bx b ty (.int .i32 1::cs)] [bx b ty (.int .i32 0::cs)]:=by
 intro O w _ hs u
 obtain⟨h1,h2⟩:=IG hs
 refine(Go.MuLone.unlock_deferred E7 ⟨b,0,aO⟩ u w h1 h2).mono ?_
 grind [z']
instance:TUp be 173:=⟨Tryz.underlying173⟩
instance:CX be 96 Extern.AbiNoEscape.same:=⟨λargs w=>run_callFunc_extern (fn:=Tryz.f96) U U U U U args w⟩
def QP(b:ab)(l:Y au):bG:=ex λp:ai×ah aX×ab=>[bx b 57 [.pointer (if p.1 then aN ⟨b,0,aO⟩else aO),.slice p.2.1 l.length p.2.2],own 5 1 p.2.1 l.length p.2.2 (l.map gT)]
section
variable {P:aT}{b:bc}{O:de}{k:Kt}{H:Y bG}{R:aZ->Y bG->Prop}{cc:ah (ar aW×Y aW)}{E:Env}
theorem Yq[hf:FB H bl 57 cs rs](tr:cs=[.pointer aO,.slice aO 0 0])(h:X P b O cc k E (QP bl []::rs) R):X P b O cc k E H R:=by
 subst tr
 refine X.dE hf.out (yK (Hs':=QP bl []::rs) (λO w hs=>?_) h)
 have h:=j6 (e:=5) (sz:=1) hs
 refine Sat.dE h ?_
 refine(eo _ _ _).trans ?_
 exact iY (ι:=ai×ah aX×ab) (f:=λp=>[bx bl 57 [.pointer (if p.1 then aN ⟨bl,0,aO⟩else aO),.slice p.2.1 ([]:Y au).length p.2.2],own 5 1 p.2.1 ([]:Y au).length p.2.2 (([]:Y au).map gT)]) (aQ,aO,0) rs
theorem Yg{l:Y au}[hf:FK H QP bl l rs](h:∀(q:ai) a c,X P b O cc k E (bx bl 57 [.pointer (if q then aN ⟨bl,0,aO⟩else aO),.slice a l.length c]::own 5 1 a l.length c (l.map gT)::rs) R):X P b O cc k E H R:=
 j9 λ_ hs=>let⟨i,hi⟩:=jB (hs.dE hf.out);⟨_,hi,h i.1 i.2.1 i.2.2⟩
theorem aS1{a:ah aX}{c n:ab}{xs:Y aR}{LZ:Y bG}[hf:FB H bl 57 cs rs][ho:FO rs a 5 1 n c xs LZ](tr:cs=[.pointer (aN ⟨bl,0,aO⟩),.slice a n c])(hn:n=l.length)(hx:xs=l.map gT)(h:X P b O cc k E (QP bl l::LZ) R):X P b O cc k E H R:=by
 subst tr hn hx
 exact X.dE ((hf.out.trans (bS.cons _ ho.out)).trans (iY (ι:=ai×ah aX×ab) (f:=λp=>[bx bl 57 [.pointer (if p.1 then aN ⟨bl,0,aO⟩else aO),.slice p.2.1 l.length p.2.2],own 5 1 p.2.1 l.length p.2.2 (l.map gT)]) (aP,a,c) LZ)) h
end
theorem AS(q:ai)(v:aR):TR be G 59 #[bu bl] [bx bl 57 [.pointer (if q then aN ⟨bl,0,aO⟩else aO),v]] (dC λu B=>u=.tuple #[]/\B=[bx bl 57 [.pointer (aN ⟨bl,0,aO⟩),v]]):=by
 refine dH U λb O hb hG=>?_;cases q with
 |false=>
  simp only[di,aI];refine xS ?_;refine bD5 U U U U U (xS ?_);refine Fa U U U (λw _=>rfl) (xS ?_);refine bC8 U U U U U (xS ?_);exact a06
 |true=>
  simp only[if_true];refine xS ?_;refine aw9 U U U U (xS ?_);exact a06
theorem FZ(m:Y au)(hs:l.length+m.length<=140737488355328):TR be G 18 #[bu bl,bn m] [QP bl l] (dC λu B=>u=.tuple #[bR m.length,.nilIface]/\B=[QP bl (l++m)]):=by
 refine bZ U λb O hb hG=>?_;refine Yg bl λq a c=>xS ?_;refine cP (AS G bl q (.slice a l.length c)) ?_;rintro _ _ ⟨rfl,rfl⟩;refine xD ?_;refine Eo U U U U bw λa2 c2=>xS ?_;refine aS1 bl (l++m) U U U ?_;exact ZZ
theorem kb(x:au)(hs:l.length<140737488355328):TR be G 157 #[bu bl,gT x] [QP bl l] (dC λu B=>u=.nilIface/\B=[QP bl (l++[x])]):=by
 refine bZ U λb O hb hG=>?_;refine Yg bl λq a c=>xS ?_;refine cP (AS G bl q (.slice a l.length c)) ?_;rintro _ _ ⟨rfl,rfl⟩;refine xD ?_;refine xZ ?_;intro b2;refine uy U U U U cE cE cE cE bw λa2 c2=>xS ?_;refine aS1 bl (l++[x]) U dW (by simp[gT]) ?_;exact ZZ
theorem wz:TR be G 20 #[bu bl] [QP bl l] (dX (bn l)):=by
 refine dH U λb O hb hG=>?_;refine Yg bl λq a c=>xS ?_;refine ph [0,1,2,3,5,6,7,8,9] [0] ?_;refine xL [0,1,2,3,5,6,7,8,9] ?_;refine xS ?_;refine bA9 U U U λp hp=>xS ?_;refine bn0 U U U U hp U  ?_;exact xR
end
end Go.Proofs
namespace Go.Proofs
open Go.Shelf
set_option maxRecDepth 8000
def Ai:Go.Shelf.Ren:=⟨fun|171=>118|243=>163|246=>258|283=>251|284=>252|285=>253|286=>254|129=>357|317=>356|318=>358|319=>359|320=>360|337=>429|338=>430|n=>n,fun|3=>3|9=>9|2=>2|4=>4|171=>389|0=>0|53=>87|37=>55|5=>5|173=>392|212=>483|51=>139|20=>20|213=>484|46=>388|232=>586|233=>587|n=>n,fun|17=>5|18=>10|19=>11|n=>n⟩
theorem tf:Go.Proofs.LaysM.n171 be Ai:=Z0
def yx:Go.Shelf.Ren:=⟨fun|157=>57|229=>91|199=>92|261=>153|311=>239|312=>240|n=>n,fun|9=>9|31=>35|3=>3|5=>5|4=>4|119=>170|0=>0|40=>115|152=>238|21=>21|154=>240|51=>139|141=>242|196=>372|193=>369|198=>375|49=>373|194=>370|201=>378|226=>472|46=>388|227=>473|n=>n,fun|0=>0|6=>2|n=>n⟩
theorem DZ:Go.Proofs.LaysM.n157 be yx:=Z0
def Ac:Go.Shelf.Ren:=⟨fun|172=>155|244=>248|245=>249|247=>350|279=>351|280=>352|281=>353|282=>354|287=>294|316=>427|171=>118|205=>428|321=>390|322=>391|243=>163|246=>258|283=>251|284=>252|285=>253|286=>254|129=>357|317=>356|318=>358|319=>359|320=>360|337=>429|338=>430|n=>n,fun|9=>9|3=>3|75=>62|76=>63|4=>4|5=>5|167=>476|37=>55|0=>0|85=>477|2=>2|168=>479|53=>87|175=>294|46=>388|210=>547|127=>124|145=>585|143=>583|21=>21|171=>389|173=>392|212=>483|51=>139|20=>20|213=>484|232=>586|233=>587|80=>66|n=>n,fun|15=>8|16=>9|17=>5|18=>10|19=>11|n=>n⟩
theorem H9:Go.Proofs.Lays.n172 be Ac:=Z0
def BT:Go.Shelf.Ren:=⟨fun|285=>253|n=>n,fun|37=>55|53=>87|3=>3|4=>4|51=>139|9=>9|5=>5|0=>0|n=>n,fun|n=>n⟩
theorem Kq:Go.Proofs.Lays.n285 be BT:=Z0
end Go.Proofs
namespace Go.Proofs
open Go.Sl
set_option maxRecDepth 8000
section
variable{P:aT}(G:dA)(s:Bs)(c:au)(w:aV)
instance:CX be 355 Extern.BytealgIndexByte.indexByte:=⟨λargs w=>run_callFunc_extern (fn:=Tryz.f355) U U U U U args w⟩
instance:CX be 237 Extern.BytealgCount.count:=⟨λargs w=>run_callFunc_extern (fn:=Tryz.f237) U U U U U args w⟩
theorem aC8:(Extern.BytealgIndexByte.indexByte #[bn s,gT c]).run P w=.ok (.int .i64 (dT s c)) w:=by
 have:=Lib.run_indexByteString (P:=P) ⟨s.toArray⟩ c.toNat w;exact a07
theorem aC9:(Extern.BytealgCount.count #[bn s,gT c]).run P w=.ok (.int .i64 (cZ s c)) w:=by
 have:=Lib.run_countString (P:=P) ⟨s.toArray⟩ c.toNat w;exact a07
theorem yR:TR be G 250 #[bn s,gT c] [] (dX (.int .i64 (dT s c))):=by
 refine bZ U λb O hb hG=>xS ?_;refine Fa U U U (λw hs=>aC8 s c w)  ?_;exact xR
theorem yS:TR be G 156 #[bn s,gT c] [] (dX (.int .i64 (dT s c))):=by
 refine bZ U λb O hb hG=>?_;refine xJ (yR G s c) ?_;exact xR
theorem QQ:TR be G 238 #[bn s,bn [c]] [] (dX (.int .i64 (dT s c))):=by
 refine bZ U λb O hb hG=>?_;refine xB ?_ ?_<;>intro h
 ·have h:[c]=s:=bQ;subst h;refine xS ?_;exact cT hb (.tmps U) ⟨by simp[mv,dT],U⟩
 ·refine xS ?_;refine jG (j:=0) U U U U U dW  ?_;refine xJ (yR G s c) ?_;exact xR
theorem QR:TR be G 152 #[bn s,bn [c]] [] (dX (.int .i64 (dT s c))):=by
 refine bZ U λb O hb hG=>?_;refine xJ (QQ G s c) ?_;exact xR
theorem QS:TR be G 151 #[bn s,bn [c]] [] (dX (.int .i64 (cZ s c))):=by
 refine bZ U λb O hb hG=>xS ?_;refine jG (j:=0) U U U U U dW (xS ?_);refine Fa U U U (λw hs=>aC9 s c w)  ?_;exact xR
def splitB(c:au):Bs->Y Bs
 |[]=>[[]]
 |x::r=>if x=c then[]::splitB c r else match splitB c r with
  |h::t=>(x::h)::t
  |[]=>[[x]]
theorem Dz(c:au):∀(s:Bs),cZ s c=0->splitB c s=[s]
 |[],_=>rfl
 |x::r,h=>by
  have h1:x≠c:=by rintro rfl;simp[cZ]at h
  have h2:cZ r c=0:=by simpa[cZ,List.count_cons,h1]using h
  rw[splitB,aj h1,Dz c r h2]
theorem uP(c:au):∀(s:Bs),(splitB c s).length=cZ s c+1
 |[]=>rfl
 |x::r=>by
  have ih:=uP c r;rw[splitB];split
  ·rename_i h;subst h;simp[ih,cZ]
  ·rename_i h;cases hq:splitB c r with
   |nil=>rw[hq]at ih;simp at ih
   |cons a t=>rw[hq]at ih;simp[cZ,List.count_cons,h]at ih ⊢;exact ih
theorem F0(c:au):∀(s:Bs),0<cZ s c->∃m:ab,dT s c=m/\m<s.length/\splitB c s=s.take m::splitB c (s.drop (m+1))/\cZ (s.drop (m+1)) c+1=cZ s c
 |[],h=>by grind [cZ]
 |x::r,h=>by
  by_cases h1:x=c
  ·grind [dT,splitB,cZ]
  ·have h2:cZ (x::r) c=cZ r c:=by grind [cZ]
   obtain⟨m,e1,e2,e3,e4⟩:=F0 c r bw;refine⟨m+1,?_,by grind,?_,by grind⟩;all_goals grind [dT,splitB]
theorem fmS(l:Y Bs):l.flatMap (λk:Bs=>[bn k])=l.map bn:=by
 induction l<;>grind
theorem Nr(hs:s.length<=1000000000):TR be G 89 #[bn s,bn [c],bR 0,bR (-1)] [] (dC λv B=>∃a cc,v=.slice a (splitB c s).length cc/\(splitB c s).length<=cc/\B=[dp (cy λk:Bs=>[bn k]) 1 a (splitB c s)]):=by
 refine TR.go (us:=[_,_,_,_]) (bH U) λb O hb hG=>?_;have hcnt:cZ s c<=s.length:=List.count_le_length;refine xJ (QS G s c) ?_;have hmin:(if(s.length:ae)+1<(cZ s c:ae)+1 then(s.length:ae)+1 else(cZ s c:ae)+1)=((cZ s c+1:ab):ae):=bw;rw[hmin];generalize hn0:cZ s c+1=n at*;refine aR5 (n:=n) (zs:=[bn []]) U U U U U U U bw bw λa=>xS ?_;refine gZ a bw λbl ha=>?_;subst ha;refine X.loop (ι:={p:Bs×Y Bs // p.2.length<n/\p.2++splitB c p.1=splitB c s/\cZ p.1 c+1+p.2.length=n/\p.1.length<=s.length}) (λp=>([(0,bn p.1.1),(1,bn [c]),(2,bR 0),(3,bR ((n:ae) - 1)),(9,.slice (aN ⟨bl,0,aO⟩) n n),(10,bR p.1.2.length)],[own 9 1 (aN ⟨bl,0,aO⟩) n n ((p.1.2++cQ (n - p.1.2.length) []).map bn)])) (λp=>n - p.1.2.length) ⟨(s,[]),by grind,U,by simp;omega,bz _⟩ (Sub.of U) (kg (by simp[List.map_replicate])) ?_;generalize ZV:s=s0 at*;rintro⟨⟨s,q⟩,Xx,Tc,hq3,hq4⟩ ih;dsimp only at Xx Tc hq3 hq4 ⊢;refine xB ?_ ?_<;>intro h
 ·have hi:q.length<n - 1:=bQ
  obtain⟨m,e1,e2,e3,e4⟩:=F0 c s bw
  refine xJ (QR G s c) ?_
  rw[e1]
  refine xS ?_
  refine lO (l:=0) (h:=m) U U U Bd.no (Bd.at U nM) bw bw (xS ?_)
  refine eA (j:=q.length) U U U U U bw ?_
  refine pA (cC:=λk:Bs=>[bn k]) (l:=q++cQ (n - q.length) []) q.length (s.take m) U U U (fmS _).symm (λ_=>rfl) (bT _) fD U U (xS ?_)
  rw[show([c]:Bs).length=1 from rfl]
  refine xS ?_
  refine lO (l:=m+1) (h:=s.length) U U U (Bd.at U (show(m:ae)+((1:ab):ae)=((m+1:ab):ae)from by simp)) Bd.no bw bw (xS ?_)
  refine X.less (ih ⟨(s.drop (m+1),q++[s.take m]),by simp;omega,by grind,by simp;omega,by simp;omega⟩ fD) (s6_ (dI U br3) U U U U (dI U nM)) ?_
  dsimp only
  refine kg ?_
  have hr:cQ (n - q.length) ([]:Bs)=[]::cQ (n - (q++[s.take m]).length) []:=by
   rw[show n - q.length=n - (q++[s.take m]).length+1 from by simp;omega,List.replicate_succ]
  grind [fmS]
 ·have hi:q.length=n - 1:=bQ;refine xS ?_;refine eA (j:=q.length) U U U U U bw ?_;refine pA (cC:=λk:Bs=>[bn k]) (l:=q++cQ (n - q.length) []) q.length s U U U (fmS _).symm (λ_=>rfl) (bT _) fD U U ?_;have hr:(q++cQ (n - q.length) ([]:Bs)).set q.length s=q++[s]:=by
   rw[show n - q.length=1 from by omega,List.set_append_right _ _ (bz _)];simp
  rw[hr];rw[Dz c s bw]at Tc;rw[Tc];have hl:(splitB c s0).length=n:=bQ;refine dR (aN ⟨bl,0,aO⟩) (λk:Bs=>[bn k]) (splitB c s0) U hl.symm (λ_=>rfl) λ_=>xS ?_;refine pj (l:=0) (h:=n) U U U hl Bd.no (Bd.at U bw) bw bw bw λa2 c2 Qq=>xS ?_;refine X.ret hb (.tmps U) ⟨_,⟨a2,c2,by rw[hl];rfl,by omega,U⟩,?_⟩;rw[gx,bI bw];exact ia [_] _
theorem Ns(hs:s.length<=1000000000):TR be G 53 #[bn s,bn [c]] [] (dC λv B=>∃a cc,v=.slice a (splitB c s).length cc/\(splitB c s).length<=cc/\B=[dp (cy λk:Bs=>[bn k]) 1 a (splitB c s)]):=by
 refine bZ U λb O hb hG=>xS ?_;refine cP (Nr G s c hs) ?_;rintro _ _ ⟨a,cc,rfl,h1,rfl⟩;refine xD ?_;exact cT hb (.tmps U) ⟨a,cc,U,h1,U⟩
def wA(c:au):ai:=decide (c.toNat<32)||decide (126<c.toNat)
theorem aD0(n:ae):TR be G 56 #[.int .i32 n] [] (dX (.bool (decide (n<32)||decide (126<n)))):=by
 refine dH U λb O hb hG=>xS ?_;by_cases h:n<32
 ·refine xT 5 ?_ ?_<;>intro h2
  ·exact MX
  ·simp at h2;omega
 ·refine xT 5 ?_ ?_<;>intro h2
  ·simp at h2;omega
  ·exact MX
theorem QT(hs:s.length<=1099511627776):TR be G 90 #[bn s,.func (.func 56) #[] #[],.bool aP] [] (dX (.int .i64 (dM wA 0 s))):=by
 refine jy U λb O hb hG=>xS ?_;refine bD2 U U U λr=>xS ?_;refine fR [0,1,2,10] [0] (ι:={i:ab // i<=s.length/\dM wA 0 s=dM wA i (s.drop i)}) (λi q_=>q_) (λi q_=>pt r (.stringIter ⟨s.toArray⟩ i.1)::q_) (λi=>s.length - i.1) ⟨0,bp _,U⟩ ?_;rintro⟨i,hi,hE⟩ ih;dsimp only;refine xS ?_;refine bC5 (l:=s) i U U U (λh=>?_) (λh=>?_)
 ·refine xS ?_;rw[ky wA s i h]at hE;refine oN (fst:=[]) (us:=[.int .i32 (rune s i).1]) (cap:=[]) hG (aD0 G (rune s i).1) U U U U ?_;have tD:(decide (((rune s i).1:ae)<32)||decide (126<((rune s i).1:ae)))=wA s[i]:=by
   grind [wA,TG,aC7]
  rw[tD];cases S9:wA s[i]with
  |true=>
   rw[ao S9]at hE;refine xS ?_;refine X2 U U U U (xS ?_);refine cT hb (.tmps U) ⟨by rw[hE];rfl,U⟩
  |false=>
   rw[aj (by simp[S9])]at hE;have h2:s[i].toNat<128:=by grind [wA]
   rw[TG s i h h2];refine xS ?_;refine X2 U U U U (xS ?_);exact X.W (ih ⟨i+1,by omega,hE⟩ bQ)
 ·have gj:i=s.length:=bw;subst gj;rw[cx bw]at hE;exact az5
theorem Nt(hs:s.length<=1099511627776):TR be G 55 #[bn s,.func (.func 56) #[] #[]] [] (dX (.int .i64 (dM wA 0 s))):=by
 refine bZ U λb O hb hG=>?_;refine xJ (QT G s hs) ?_;exact xR
theorem Ck{α:Type}(p:α->ai):∀(l:Y α) (i:ab),dM p i l<0↔∀x∈l,p x=aQ
 |[],i=>by simp[dM]
 |x::r,i=>by
  rw[dM];by_cases h:p x=aP
  ·rw[ao h];simp[h]
  ·rw[aj h,Ck p r (i+1)];simp[h]
end
end Go.Proofs
namespace Go.Proofs
open Go.Sl
open Go.RowKit Go.Sort
set_option maxRecDepth 8000
section
variable{O:de}(s:Bs)(n:ae)
theorem Nu(w:aV)(k:ab)(os:ar Obj):Below w.heap.size w (grow (w.drewN k) os):=
 ⟨U,U,U,by simp_all,λi hi=>by
  show(w.heap++os)[i]?=_
  grind⟩
theorem F4{H:Y bG}{w:aV}(hs:Sat O H w){name:aC}{g t:ab}{f:ab×ab}{k:IntKind}{zs:Y ae}(hg:be.globalNamed name=aN g)(h:O.r g=aN (.cells (zs.map λz=>gf k z).toArray t f)):Lib.TabIs be w name k zs:=by
 obtain⟨r,o,h0,hf,_⟩:=hs
 have h1:w.heap[g]?=aN (.cells (zs.map λz=>gf k z).toArray t f):=hf.r _ _ (h0 _ _ h)
 grind [Lib.TabIs,World.var?]
theorem qf(hG:GG.on O):O.q=aQ:=by cases hb:O.q with|false=>rfl|true=>exact aD (hG.2 hb) (by simp[GG])
theorem xG(h0: -9223372036854775808<=n)(h1:n<=9223372036854775807):TR be GG 118 #[.int .i64 n] [] (dX (bn (ib n))):=by
 intro O w hG hs;obtain⟨t,f,hp⟩:=hG.1.bq7;refine(Any.strconv_Itoa tf n h0 h1 w (F4 hs iB hp)).mono ?_;rintro e w' ⟨rfl,k,os,rfl⟩;exact⟨[],⟨U,U⟩,hs.below (qf hG) (Nu w k os)⟩
theorem K3:∀(q:ai) (l:Bs),Lib.cntF q l<=l.length
 |_,[]=>bp _
 |q,x::r=>by
  have:=K3 (Lib.isSp x) r;rw[Lib.cntF,bL];split<;>omega
theorem Vt(hl:s.length<4294967281)(ha:∀x∈s,x.toNat<128):TR be GG 57 #[bn s] [] (dC λv B=>∃a,v=.slice a (fy s).length (fy s).length/\B=[own 9 1 a (fy s).length (fy s).length ((fy s).map bn)]):=by
 intro O w hG hs;obtain⟨t,f,hp⟩:=hG.1.sp;refine(Any.strings_Fields_laid DZ ⟨s.toArray⟩ w YA (λj b hb=>ha b (List.mem_of_getElem? (by simpa using hb))) (F4 hs iB hp)).mono ?_;rintro e w' ⟨rfl,rfl⟩;refine⟨_,⟨_,U,U⟩,?_⟩;refine gY (cur:=((fy s).map bn).toArray) (Sat.mR hs _) dW (bz _) ?_ dW br3;have:(fy s).length<=s.length:=by grind [Lib.fields_length,K3]
 show _<=9223372036854775807;omega
theorem TH(hl:s.length<=18)(h:Lib.atoi s=aN n):TR be GG 155 #[bn s] [] (dX (.tuple #[.int .i64 n,.nilIface])):=by
 refine TR.below U λw=>?_
 refine(Any.strconv_Atoi H9 ⟨s.toArray⟩ n YA h w).mono ?_
 grind [Lib.bytesWorld_below]
end
end Go.Proofs
namespace Go.Proofs
open Go.RowKit Go.Extern.Stop Go.Stop Go.Extern
set_option maxRecDepth 8000
section
variable{n:ab}(e:ae)(v h:aR)(a p:aX)(W:aV)(t:aX)(w:aV)
abbrev lM(n:ab):aR:=.pointer (aN ⟨13,n,aO⟩)
theorem aD1:(ReflectliteValue.unpack (.iface 147 (.pointer (aN t)))).run be w
 =.ok (.agg #[lM 147,.pointer (aN ⟨w.heap.size,0,aO⟩),.int .u64 150]) (w.alloc (.cells #[.pointer (aN t)] 147)):=iB
theorem aD2:(ReflectliteValue.methodAny (ReflectliteValue.valueError "reflectlite.Value.Type" 0) (λt _ _ _=>ReflectliteType.toType t) #[.agg #[lM 147,.pointer (aN a),.int .u64 150]]).run be w
 =.ok (.iface 301 (.agg #[lM 147])) w:=iB
theorem Z3:(Go.method 736 301 (.agg #[h]) "Kind").run be w=.ok (533,h) w:=iB
theorem aD3:((ReflectliteType.abiMethod λt=>Functor.map (λa:ab=>gf dS (a:ae)) (Rtype.kind t)) #[lM 147]).run be w=.ok (.int .u8 22) w:=iB
theorem br4:((ReflectliteType.abiMethod λt=>Functor.map (λa:ab=>gf dS (a:ae)) (Rtype.kind t)) #[lM 23]).run be w=.ok (.int .u8 2) w:=iB
theorem Z4{v:aR}{h1:#[v].size=n}{h2:0<n}:#[v].getLit 0 h1 h2=v:=rfl
theorem Z5{v x:aR}{h1:#[v,x].size=n}{h2:0<n}:#[v,x].getLit 0 h1 h2=v:=rfl
theorem Z6{v x:aR}{h1:#[v,x].size=n}{h2:1<n}:#[v,x].getLit 1 h1 h2=x:=rfl
theorem TI:(ReflectliteValue.parts (.agg #[lM 147,.pointer (aN a),.int .u64 150])).run be w=.ok (aN (147,a,150)) w:=iB
theorem Vu(ha:W.cell? a=aN (.pointer (aN p))):
 (ReflectliteValue.method (ReflectliteValue.valueError "reflectlite.Value.IsNil" 0) ReflectliteValue.isNil #[.agg #[lM 147,.pointer (aN a),.int .u64 150]]).run be W=.ok (.bool aQ) W:=by
 refine(show _=(_>>=_:Sem aR).run _ _ from rfl).trans ?_
 simp only[Z4,Z5,Z6]
 simp only[cb,TI,jq]
 simp[ReflectliteValue.isNil,loadVar,isAgg,underlying,Tryz.underlying147,ha,jq]
theorem Z7:(Go.method 736 301 (.agg #[h]) "Elem").run be w=.ok (548,.agg #[h]) w:=iB
theorem Z8:(Go.method 736 301 (.agg #[h]) "Implements").run be w=.ok (549,.agg #[h]) w:=iB
theorem aD4:(Go.method 736 301 (.agg #[h]) "AssignableTo").run be w=.ok (546,.agg #[h]) w:=iB
theorem aD5:(ReflectliteType.method ReflectliteType.elem #[.agg #[lM 147]]).run be w=.ok (.iface 301 (.agg #[lM 23])) w:=iB
theorem br5:(ReflectliteType.relation "Implements" ReflectliteType.implements_ #[.agg #[lM 23],.iface 301 (.agg #[lM 62])]).run be w=.ok (.bool aP) w:=iB
theorem aD6:(ReflectliteType.typeOf #[.iface 23 v]).run be w=.ok (.iface 301 (.agg #[lM 23])) w:=iB
theorem Z9:(ReflectliteType.typeOf #[.iface 178 v]).run be w=.ok (.iface 301 (.agg #[lM 178])) w:=iB
theorem br6:(ReflectliteType.relation "AssignableTo" ReflectliteType.assignableTo #[.agg #[lM 23],.iface 301 (.agg #[lM 23])]).run be w=.ok (.bool aP) w:=iB
theorem aD7:(ReflectliteType.relation "AssignableTo" ReflectliteType.assignableTo #[.agg #[lM 178],.iface 301 (.agg #[lM 23])]).run be w=.ok (.bool aQ) w:=iB
theorem br7:(ReflectliteValue.unpack (.iface 23 (.int .i64 e))).run be w
 =.ok (.agg #[lM 23,.pointer (aN ⟨w.heap.size,0,aO⟩),.int .u64 130]) (w.alloc (.cells #[.int .i64 e] 23)):=iB
theorem Z':(Rtype.elem? 147).run be w=.ok (aN 23) w:=iB
theorem aD8:(ReflectliteValue.mk 23 p ReflectliteValue.flagAddr).run be w=.ok (.agg #[lM 23,.pointer (aN p),.int .u64 386]) w:=iB
theorem aa0(ha:W.cell? a=aN (.pointer (aN p))):
 (ReflectliteValue.method (ReflectliteValue.valueError "reflectlite.Value.Elem" 0) ReflectliteValue.elem #[.agg #[lM 147,.pointer (aN a),.int .u64 150]]).run be W
  =.ok (.agg #[lM 23,.pointer (aN p),.int .u64 386]) W:=by
 refine(show _=(_>>=_:Sem aR).run _ _ from rfl).trans ?_
 simp only[Z4,Z5,Z6]
 simp only[cb,TI,jq]
 simp[ReflectliteValue.elem,loadVar,isAgg,underlying,Tryz.underlying147,ha,jq,Z',aD8]
theorem aD9:(ReflectliteValue.parts (.agg #[lM 23,.pointer (aN a),.int .u64 386])).run be w=.ok (aN (23,a,386)) w:=iB
theorem br8:(ReflectliteValue.parts (.agg #[lM 23,.pointer (aN a),.int .u64 130])).run be w=.ok (aN (23,a,130)) w:=iB
theorem br9:(Rtype.directlyAssignable 23 23).run be w=.ok aP w:=iB
theorem bs0(ta b:aX)(e:ae)(jK:aR)(W:aV)(hb:W.cell? b=aN (.int .i64 e))(ht:W.cell? ta=aN jK)(hf:W.frozen? ta=aQ):
 (ReflectliteValue.set #[.agg #[lM 23,.pointer (aN ta),.int .u64 386],.agg #[lM 23,.pointer (aN b),.int .u64 130]]).run be W
  =.ok (.tuple #[]) (W.setCell ta (.int .i64 e)):=by
 refine(show _=(_>>=_:Sem aR).run _ _ from rfl).trans ?_
 simp only[Z4,Z5,Z6]
 simp only[cb,aD9,br8,jq]
 simp[ReflectliteValue.flagAddr,loadVar,isAgg,underlying,Tryz.underlying23,hb,jq,br9,storeVar,Value.cells,storeCells,Addr.add]
 rw[run_store be W ta _ _ cE]
 simp[ht,hf]
theorem aE0:(Instr.typeAssert (.iface 178 v) 62 306 aP).run be w=.ok (.tuple #[.nilIface,.bool aQ]) w:=run_typeAssert_lacksB Tryz.underlying306 iB iB v 62 w
theorem aE1:(Instr.typeAssert (.iface 178 v) 62 309 aP).run be w=.ok (.tuple #[.iface 178 v,.bool aP]) w:=iB
theorem aE2:(Go.method 736 178 h "Unwrap").run be w=.ok (541,h) w:=iB
section
set_option maxRecDepth 20000
theorem bs2(c:aR)(e:ae)(jK:aR)(w:aV)(hg:w.cell? ⟨1,0,aO⟩=aN (.iface 301 (.agg #[lM 62])))(hp:w.cell? ⟨p.block,p.off+1,aO⟩=aN (.iface 23 (.int .i64 e)))(ht0:w.cell? t=aN jK)(hf0:w.frozen? t=aQ):
 Calls be 69 #[.iface 178 (.pointer (aN p)),.iface 147 (.pointer (aN t))] w λev w'=>ev=.returned (.bool aP)/\w'=((((w.alloc (.cells #[.pointer (aN t)] 147)).alloc (.cells #[lM 147,.pointer (aN ⟨w.heap.size,0,aO⟩),.int .u64 150] 196)).alloc (.cells #[lM 147,.pointer (aN ⟨w.heap.size,0,aO⟩),.int .u64 150] 196)).alloc (.cells #[.int .i64 e] 23)).setCell t (.int .i64 e):=by
 have h128:=@run_callFunc_extern be 128 _ (λargs=>ReflectliteValue.unpack (args.getD 0 (.tuple #[]))) Tryz.func128 iB iB iB iB
 have h129:=@run_callFunc_extern be 129 _ (ReflectliteValue.methodAny (ReflectliteValue.valueError "reflectlite.Value.Type" 0) (λt _ _ _=>ReflectliteType.toType t)) Tryz.func129 iB iB iB iB
 have h130:=@run_callFunc_extern be 130 _ (ReflectliteValue.method (ReflectliteValue.valueError "reflectlite.Value.IsNil" 0) ReflectliteValue.isNil) Tryz.func130 iB iB iB iB
 have h533:=@run_callFunc_extern be 533 _ (ReflectliteType.abiMethod λt=>do pure (.int .u8 (<-Rtype.kind t))) Tryz.func533 iB iB iB iB
 have h548:=@run_callFunc_extern be 548 _ (ReflectliteType.method ReflectliteType.elem) Tryz.func548 iB iB iB iB
 have h549:=@run_callFunc_extern be 549 _ (ReflectliteType.relation "Implements" ReflectliteType.implements_) Tryz.func549 iB iB iB iB
 have h190:=@run_callFunc_extern be 190 _ ReflectliteType.typeOf Tryz.func190 iB iB iB iB
 have h546:=@run_callFunc_extern be 546 _ (ReflectliteType.relation "AssignableTo" ReflectliteType.assignableTo) Tryz.func546 iB iB iB iB
 have h191:=@run_callFunc_extern be 191 _ (ReflectliteValue.method (ReflectliteValue.valueError "reflectlite.Value.Elem" 0) ReflectliteValue.elem) Tryz.func191 iB iB iB iB
 have h192:=@run_callFunc_extern be 192 _ ReflectliteValue.set Tryz.func192 iB iB iB iB
 have t23:=aD6
 have t178:=Z9
 have mA:=aD4
 have a23:=br6
 have a178:=aD7
 have v23:=br7
 have v147:=aD1
 have t147:=aD2
 have mK:=Z3
 have mE:=Z7
 have mI:=Z8
 have mU:=aE2
 have k147:=aD3
 have k23:=br4
 have e147:=aD5
 have i23:=br5
 have A306:=aE0
 have A309:=aE1
 have n8:=Vu ⟨w.heap.size,0,aO⟩ t ((w.alloc (.cells #[.pointer (aN t)] 147)).alloc (.cells #[lM 147,.pointer (aN ⟨w.heap.size,0,aO⟩),.int .u64 150] 196)) dW
 have vz:1<w.heap.size:=by
  rcases Nat.lt_or_ge 1 w.heap.size with h|h
  ·exact h
  ·simp[gl,Array.getElem?_eq_none h]at hg
 have hg2:((w.alloc (.cells #[.pointer (aN t)] 147)).alloc (.cells #[lM 147,.pointer (aN ⟨w.heap.size,0,aO⟩),.int .u64 150] 196)).cell? ⟨1,0,aO⟩=aN (.iface 301 (.agg #[lM 62])):=by
  rw[fO _ _ ⟨1,0,aO⟩ fD,fO _ _ ⟨1,0,aO⟩ vz];exact hg
 have Il:t.block<w.heap.size:=by
  rcases Nat.lt_or_ge t.block w.heap.size with h|h
  ·exact h
  ·simp[gl,Array.getElem?_eq_none h]at ht0
 have tJ:p.block<w.heap.size:=by
  rcases Nat.lt_or_ge p.block w.heap.size with h|h
  ·exact h
  ·simp[gl,Array.getElem?_eq_none h]at hp
 have hp3:(((w.alloc (.cells #[.pointer (aN t)] 147)).alloc (.cells #[lM 147,.pointer (aN ⟨w.heap.size,0,aO⟩),.int .u64 150] 196)).alloc (.cells #[lM 147,.pointer (aN ⟨w.heap.size,0,aO⟩),.int .u64 150] 196)).cell? ⟨p.block,p.off+1,aO⟩=aN (.iface 23 (.int .i64 e)):=by
  rw[fO _ _ ⟨p.block,p.off+1,aO⟩ fD,fO _ _ ⟨p.block,p.off+1,aO⟩ fD,fO _ _ ⟨p.block,p.off+1,aO⟩ tJ];exact hp
 have el:=aa0 ⟨w.heap.size,0,aO⟩ t (((w.alloc (.cells #[.pointer (aN t)] 147)).alloc (.cells #[lM 147,.pointer (aN ⟨w.heap.size,0,aO⟩),.int .u64 150] 196)).alloc (.cells #[lM 147,.pointer (aN ⟨w.heap.size,0,aO⟩),.int .u64 150] 196)) (by rw[fO _ _ ⟨w.heap.size,0,aO⟩ fD];simp)
 have st:=bs0 t ⟨w.heap.size+1+1+1,0,aO⟩ e jK ((((w.alloc (.cells #[.pointer (aN t)] 147)).alloc (.cells #[lM 147,.pointer (aN ⟨w.heap.size,0,aO⟩),.int .u64 150] 196)).alloc (.cells #[lM 147,.pointer (aN ⟨w.heap.size,0,aO⟩),.int .u64 150] 196)).alloc (.cells #[.int .i64 e] 23))
  (by rw[World.cell?_alloc_at _ _ _ _ dW];rfl)
  (by rw[fO _ _ t fD,fO _ _ t fD,fO _ _ t fD,fO _ _ t Il];exact ht0)
  (by rw[World.frozen?_alloc_old _ _ t fD,World.frozen?_alloc_old _ _ t fD,World.frozen?_alloc_old _ _ t fD,World.frozen?_alloc_old _ _ t (Nat.ne_of_lt Il)];exact hf0)
 go_enter Tryz.func69,Tryz.ntmps69
 go_wp2
 refine wp_loop_rounds 2 ?_
 rw[rounds_succ]
 go_wp2
 rw[rounds_succ]
 go_wp2
 go_ret
 exact⟨U,U⟩
end
end
end Go.Proofs
namespace Go.Proofs
open Go.Sl
set_option maxRecDepth 8000
section
variable{p:Prop}{j i:ab}
theorem UG{r:Hp}{w:aV}{b o:ab}{l:Y aR}(h:D4 r b o l)(hr:Hp.le r (hp w)){v:aR}(hj:l[j]?=aN v):w.cell? ⟨b,o+j,aO⟩=aN v:=
 (h.mono hr).cell hj
theorem UI{O:de}{F:Y bG}{W:aV}{t ty:ab}{a:aR}(h:Sat O (bx t ty [a]::F) W)(v:aR):Sat O (bx t ty [v]::F) (W.setCell ⟨t,0,aO⟩ v):=by
 have h3:=fF h;refine Sat.put h ⟨U,U,U,by simp[World.setCell],λ_=>bz _⟩ ?_ ?_
 ·simp only[World.setCell];rw[fW,ao U,h3];rfl
 ·intro n hn _;simp only[World.setCell];rw[fW,aj (by exact λh=>hn h.symm)]
theorem Nv(p t:ab)(c:Bs)(e jK:ae):TR be GG 69 #[.iface 178 (bu p),.iface 147 (bu t)] [bx p 180 [bn c,.iface 23 (.int .i64 e)],bx t 23 [.int .i64 jK]] (dC λv B=>v=.bool aP/\B=[bx t 23 [.int .i64 e]]):=by
 intro O w hG hs;have hp:w.heap[p]?=aN _:=fF hs;have ht:w.heap[t]?=aN _:=fF (hs.dE (eo _ _ _));have hg:w.cell? ⟨1,0,aO⟩=aN (.iface 301 (.agg #[lM 62])):=by
  obtain⟨r,o,h0,hf,_⟩:=hs;exact UG hG.1.e1 (λn x hn=>hf.r _ _ (h0 _ _ hn)) (j:=0) U
 refine(bs2 ⟨p,0,aO⟩ ⟨t,0,aO⟩ (bn c) e (.int .i64 jK) w hg ?_ ?_ ?_).mono ?_
 ·simp[gl,hp]
 ·simp[gl,ht]
 ·simp[World.frozen?,ht]
 ·rintro ev w' ⟨rfl,rfl⟩;refine⟨_,⟨U,U⟩,?_⟩;have h1:=(((((hs.dE (eo _ _ _)).dE (ia [bx t 23 [.int .i64 jK]] [bx p 180 [bn c,.iface 23 (.int .i64 e)]])).mR (.cells #[.pointer (aN ⟨t,0,aO⟩)] 147)).mR (.cells #[lM 147,.pointer (aN ⟨w.heap.size,0,aO⟩),.int .u64 150] 196)).mR (.cells #[lM 147,.pointer (aN ⟨w.heap.size,0,aO⟩),.int .u64 150] 196)).mR (.cells #[.int .i64 e] 23);have h2:=h1.dE (ew (cH (l₁:=[_,_,_,_]) (l₂:=[_])));exact(UI h2 _).dE (ia [_] _)
theorem aa1(G:dA)(fc:ab)[CF be fc](cap:Y aR)(A:Y bG)(p:(WB ca)->ai)(a:ah aX)(n c:ab)(xs:Y (WB ca))(hn:xs.length=n)(hs:n<=1099511627776)
 (hc:∀x∈xs,TR be G fc (([]:Y aR)++[iD (bY x).toArray]++cap).toArray [dZ A] (dC λv B=>v=.bool (p x)/\B=[dZ A])):
 TR be G 270 #[.slice a n c,.func (.func fc) #[] cap.toArray] [dp (cy bY) 2 a xs,dZ A] (dC λv B=>v=bR (dM p 0 xs)/\B=[dZ A]):=by
 refine bZ U λb O hb hG=>xS ?_
 refine fR [0,1] [] (ι:={i:ab // i<=n/\dM p 0 xs=dM p i (xs.drop i)}) (λi q_=>(7,bR n)::(8,bR i.1)::q_) (λi q_=>q_) (λi=>n - i.1) ⟨0,bp _,U⟩ ?_
 rintro⟨i,hi,hE⟩ ih
 dsimp only
 refine xB ?_ ?_<;>intro h
 ·have hi:i<xs.length:=bQ;refine xS ?_;refine dJ U U U U U hi hn λbl o=>?_;rw[ky _ xs i hi]at hE;have Fu:=hc xs[i] (bE hi);generalize xs[i]=x at*;refine xS ?_;refine eT U U U U (xS ?_);refine jd (fst:=[]) (us:=[iD (bY x).toArray]) (cap:=cap) hG Fu U U U U bS.es ?_;exact aE3
 ·exact aE4
structure Eb where
 jE:ca
 no:av
deriving DecidableEq
abbrev mD(x:WB Eb):Y aR:=[bn x.1.jE.name,.slice x.2.1 x.1.jE.data.length x.2.2,.int .u32 x.1.no.toNat]
section
variable {α:Type}
def sI(lt:α->α->ai)(l:Y α)(i j:ab):ai:=match l[i]?,l[j]? with|some x,aN y=>lt x y|_,_=>aQ
def qy(l:Y α)(i j:ab):Y α:=match l[i]?,l[j]? with|some x,aN y=>(l.set i y).set j x|_,_=>l
theorem wB{l:Y α}(hi:i<l.length)(hj:j<l.length):qy l i j=(l.set i l[j]).set j l[i]:=by
 grind [qy]
theorem EB(lt:α->α->ai){l:Y α}(hi:i<l.length)(hj:j<l.length):sI lt l i j=lt l[i] l[j]:=by
 grind [sI]
theorem r8(l:Y α)(i j:ab):(qy l i j).Perm l:=by
 by_cases hi:i<l.length
 ·by_cases hj:j<l.length
  ·grind [wB,List.set_set_perm]
  ·unfold qy;simp_all
 ·unfold qy;simp_all
theorem xM(l:Y α)(i j:ab):(qy l i j).length=l.length:=(r8 l i j).length_eq
def zo(lt:α->α->ai)(a:ab):ab->Y α->Y α
 |0,l=>l
 |j+1,l=>if a<j+1/\sI lt l (j+1) j=aP then zo lt a j (qy l (j+1) j)else l
def Nw(lt:α->α->ai)(a:ab):ab->ab->Y α->Y α
 |0,_,l=>l
 |k+1,i,l=>Nw lt a k (i+1) (zo lt a i l)
def Cm(lt:α->α->ai)(l:Y α)(a b:ab):Y α:=Nw lt a (b - (a+1)) (a+1) l
def Ny(a b:ab):ab->ab->Y α->Y α
 |0,_,l=>l
 |k+1,i,l=>Ny a b k (i+1) (qy l (a+i) (b+i))
def ru(m:ab):ab->ab->ab->Y α->Y α
 |0,_,_,l=>l
 |f+1,i,j,l=>if i=j then Ny (m - i) m i 0 l else if j<i then ru m f (i - j) j (Ny (m - i) m j 0 l)else ru m f i (j - i) (Ny (m - i) (m+j - i) i 0 l)
def H0(p:ab->ai):ab->ab->ab->ab
 |0,i,_=>i
 |f+1,i,j=>if i<j then(if p ((i+j) / 2)=aP then H0 p f ((i+j) / 2+1) j else H0 p f i ((i+j) / 2))else i
def shU:ab->ab->Y α->Y α
 |0,_,l=>l
 |c+1,k,l=>shU c (k+1) (qy l k (k+1))
def shD:ab->ab->Y α->Y α
 |0,_,l=>l
 |c+1,k,l=>shD c (k - 1) (qy l k (k - 1))
def Ec(a m b:ab):ab:=if(a+b) / 2<m then(a+b) / 2+m - b else a
def Cn(a m b:ab):ab:=if(a+b) / 2<m then(a+b) / 2 else m
def jw(lt:α->α->ai)(l:Y α)(a m b:ab):ab:=
 H0 (λc=> !sI lt l ((a+b) / 2+m - 1 - c) c) (Cn a m b - Ec a m b) (Ec a m b) (Cn a m b)
def qz(lt:α->α->ai):ab->Y α->ab->ab->ab->Y α
 |0,l,_,_,_=>l
 |f+1,l,a,m,b=>
  if m - a=1 then shU (H0 (λh=>sI lt l h a) (b - m) m b - 1 - a) a l
  else if b - m=1 then shD (m - H0 (λh=> !sI lt l m h) (m - a) a m) m l
  else
   let s:=jw lt l a m b
   let e:=(a+b) / 2+m - s
   let l1:=if s<m/\m<e then ru m (e - s) (m - s) (e - m) l else l
   let l2:=if a<s/\s<(a+b) / 2 then qz lt f l1 a s ((a+b) / 2)else l1
   if(a+b) / 2<e/\e<b then qz lt f l2 ((a+b) / 2) e b else l2
def Vv(lt:α->α->ai)(n:ab):ab->ab->Y α->Y α
 |0,a,l=>Cm lt l a n
 |f+1,a,l=>if a+20<=n then Vv lt n f (a+20) (Cm lt l a (a+20))else Cm lt l a n
def stM(lt:α->α->ai)(n bs:ab):ab->ab->Y α->Y α
 |0,_,l=>l
 |f+1,a,l=>if a+2*bs<=n then stM lt n bs f (a+2*bs) (qz lt n l a (a+bs) (a+2*bs))else if a+bs<n then qz lt n l a (a+bs) n else l
def XE(lt:α->α->ai)(n:ab):ab->ab->Y α->Y α
 |0,_,l=>l
 |f+1,bs,l=>if bs<n then XE lt n f (bs*2) (stM lt n bs (n+1) 0 l)else l
def lE(lt:α->α->ai)(l:Y α):Y α:=XE lt l.length l.length 20 (Vv lt l.length l.length 0 l)
theorem Co(lt:α->α->ai)(a:ab):∀(j:ab) (l:Y α),(zo lt a j l).Perm l
 |0,l=>.refl _
 |j+1,l=>by
  unfold zo;split
  ·exact(Co lt a j _).trans (r8 _ _ _)
  ·exact .refl _
theorem Jd(lt:α->α->ai)(a:ab):∀(k i:ab) (l:Y α),(Nw lt a k i l).Perm l
 |0,_,l=>.refl _
 |k+1,i,l=>(Jd lt a k _ _).trans (Co _ _ _ _)
theorem xN(lt:α->α->ai)(l:Y α)(a b:ab):(Cm lt l a b).Perm l:=Jd _ _ _ _ _
theorem wC(a b:ab):∀(k i:ab) (l:Y α),(Ny a b k i l).Perm l
 |0,_,l=>.refl _
 |k+1,i,l=>(wC a b k _ _).trans (r8 _ _ _)
theorem Cp(m:ab):∀(f i j:ab) (l:Y α),(ru m f i j l).Perm l
 |0,_,_,l=>.refl _
 |f+1,i,j,l=>by
  unfold ru;split
  ·grind [wC]
  ·split
   ·exact a09
   ·exact a09
theorem Nz:∀(c k:ab) (l:Y α),(shU c k l).Perm l
 |0,_,l=>.refl _
 |c+1,k,l=>(Nz c _ _).trans (r8 _ _ _)
theorem NA:∀(c k:ab) (l:Y α),(shD c k l).Perm l
 |0,_,l=>.refl _
 |c+1,k,l=>(NA c _ _).trans (r8 _ _ _)
theorem rK(lt:α->α->ai):∀(f:ab) (l:Y α) (a m b:ab),(qz lt f l a m b).Perm l
 |0,l,_,_,_=>.refl _
 |f+1,l,a,m,b=>by
  unfold qz;split
  ·grind [Nz]
  ·split
   ·grind [NA]
   ·dsimp only;have h1:(if jw lt l a m b<m/\m<(a+b) / 2+m - jw lt l a m b then ru m ((a+b) / 2+m - jw lt l a m b - jw lt l a m b) (m - jw lt l a m b) ((a+b) / 2+m - jw lt l a m b - m) l else l).Perm l:=by
     split
     ·grind [Cp]
     simp_all
    generalize(if jw lt l a m b<m/\m<(a+b) / 2+m - jw lt l a m b then ru m ((a+b) / 2+m - jw lt l a m b - jw lt l a m b) (m - jw lt l a m b) ((a+b) / 2+m - jw lt l a m b - m) l else l)=l1 at*;have h2:(if a<jw lt l a m b/\jw lt l a m b<(a+b) / 2 then qz lt f l1 a (jw lt l a m b) ((a+b) / 2)else l1).Perm l1:=by
     split
     ·exact rK lt f _ _ _ _
     simp_all
    generalize(if a<jw lt l a m b/\jw lt l a m b<(a+b) / 2 then qz lt f l1 a (jw lt l a m b) ((a+b) / 2)else l1)=l2 at*;split
    ·exact(rK lt f _ _ _ _).trans (h2.trans h1)
    ·exact h2.trans h1
theorem F6(lt:α->α->ai)(n:ab):∀(f a:ab) (l:Y α),(Vv lt n f a l).Perm l
 |0,_,l=>xN _ _ _ _
 |f+1,a,l=>by
  unfold Vv;split
  ·exact(F6 lt n f _ _).trans (xN _ _ _ _)
  ·exact xN _ _ _ _
theorem F7(lt:α->α->ai)(n bs:ab):∀(f a:ab) (l:Y α),(stM lt n bs f a l).Perm l
 |0,_,l=>.refl _
 |f+1,a,l=>by
  unfold stM;split
  ·exact(F7 lt n bs f _ _).trans (rK _ _ _ _ _ _)
  ·split
   ·grind [rK]
   simp_all
theorem NC(lt:α->α->ai)(n:ab):∀(f bs:ab) (l:Y α),(XE lt n f bs l).Perm l
 |0,_,l=>.refl _
 |f+1,bs,l=>by
  unfold XE;split
  ·exact(NC lt n f _ _).trans (F7 _ _ _ _ _ _)
  ·exact .refl _
theorem jV(lt:α->α->ai)(l:Y α):(lE lt l).Perm l:=(NC _ _ _ _ _).trans (F6 _ _ _ _ _)
theorem kX(lt:α->α->ai)(l:Y α):(lE lt l).length=l.length:=(jV lt l).length_eq
theorem aE7(p:ab->ai)(f i:ab):H0 p f i i=i:=by
 cases f<;>grind [H0]
theorem a14{p:ab->ai}{f:ab}(h:i<j)(hp:p ((i+j) / 2)=aP):H0 p (f+1) i j=H0 p f ((i+j) / 2+1) j:=by
 show(if i<j then _ else _)=_
 grind
theorem a15{p:ab->ai}{f:ab}(h:i<j)(hp:¬p ((i+j) / 2)=aP):H0 p (f+1) i j=H0 p f i ((i+j) / 2):=by
 show(if i<j then _ else _)=_
 grind
theorem AT(p:ab->ai):∀(f i j:ab),i<=j->i<=H0 p f i j/\H0 p f i j<=j
 |0,i,j,h=>⟨bz _,h⟩
 |f+1,i,j,h=>by
  unfold H0;split
  ·split
   ·have:=AT p f ((i+j) / 2+1) j bw;omega
   ·have:=AT p f i ((i+j) / 2) bw;omega
  ·omega
theorem Vw{a m b:ab}(h1:a<m)(h2:m<b):a<=Ec a m b/\Ec a m b<=Cn a m b/\Cn a m b<=m/\Cn a m b<=(a+b) / 2/\(∀c,Ec a m b<=c->c<=Cn a m b->m<=(a+b) / 2+m - c/\(a+b) / 2+m - c<=b/\(a+b) / 2<=(a+b) / 2+m - c):=by
 grind [Ec,Cn]
end
theorem K4(i j:ab)(h:i+j<=4000000000000000000):eu.wrap ((ee.wrap ((i:ae)+j)).fdiv (2^min (Int.toNat 1) ee.bits))=(((i+j)/2:ab):ae):=by
 grind [jm,iM]
section
variable {α γ:Type}(f:α->γ)(lt:γ->γ->ai)
theorem xV(l:Y α)(i j:ab):(qy l i j).map f=qy (l.map f) i j:=by
 grind [qy,fL]
theorem F8(l:Y α)(i j:ab):sI (λx y=>lt (f x) (f y)) l i j=sI lt (l.map f) i j:=by
 grind [sI]
theorem ND(a:ab):∀(j:ab) (l:Y α),(zo (λx y=>lt (f x) (f y)) a j l).map f=zo lt a j (l.map f)
 |0,l=>rfl
 |j+1,l=>by
  unfold zo;rw[F8];split
  ·rw[ND a j,xV]
  ·rfl
theorem NF(a:ab):∀(k i:ab) (l:Y α),(Nw (λx y=>lt (f x) (f y)) a k i l).map f=Nw lt a k i (l.map f)
 |0,_,l=>rfl
 |k+1,i,l=>by
  unfold Nw;rw[NF a k,ND]
theorem F9(l:Y α)(a b:ab):(Cm (λx y=>lt (f x) (f y)) l a b).map f=Cm lt (l.map f) a b:=NF f lt _ _ _ _
theorem EC(a b:ab):∀(k i:ab) (l:Y α),(Ny a b k i l).map f=Ny a b k i (l.map f)
 |0,_,l=>rfl
 |k+1,i,l=>by
  unfold Ny;rw[EC a b k,xV]
theorem Ga(m:ab):∀(g i j:ab) (l:Y α),(ru m g i j l).map f=ru m g i j (l.map f)
 |0,_,_,l=>rfl
 |g+1,i,j,l=>by
  unfold ru;split
  ·exact EC f _ _ _ _ _
  ·split
   ·rw[Ga m g,EC]
   ·rw[Ga m g,EC]
theorem TJ:∀(c k:ab) (l:Y α),(shU c k l).map f=shU c k (l.map f)
 |0,_,l=>rfl
 |c+1,k,l=>by
  unfold shU;rw[TJ c,xV]
theorem TK:∀(c k:ab) (l:Y α),(shD c k l).map f=shD c k (l.map f)
 |0,_,l=>rfl
 |c+1,k,l=>by
  unfold shD;rw[TK c,xV]
theorem aa2(l:Y α)(a m b:ab):jw (λx y=>lt (f x) (f y)) l a m b=jw lt (l.map f) a m b:=by
 grind [jw,F8]
theorem AU:∀(g:ab) (l:Y α) (a m b:ab),(qz (λx y=>lt (f x) (f y)) g l a m b).map f=qz lt g (l.map f) a m b
 |0,l,_,_,_=>rfl
 |g+1,l,a,m,b=>by
  unfold qz
  simp only[F8,aa2]
  split
  ·grind [TJ]
  ·split
   ·grind [TK]
   ·generalize jw lt (l.map f) a m b=s;have h1:(if s<m/\m<(a+b) / 2+m - s then ru m ((a+b) / 2+m - s - s) (m - s) ((a+b) / 2+m - s - m) l else l).map f=if s<m/\m<(a+b) / 2+m - s then ru m ((a+b) / 2+m - s - s) (m - s) ((a+b) / 2+m - s - m) (l.map f)else l.map f:=by
     grind [Ga]
    rw[<-h1];generalize(if s<m/\m<(a+b) / 2+m - s then ru m ((a+b) / 2+m - s - s) (m - s) ((a+b) / 2+m - s - m) l else l)=l1;have h2:(if a<s/\s<(a+b) / 2 then qz (λx y=>lt (f x) (f y)) g l1 a s ((a+b) / 2)else l1).map f=if a<s/\s<(a+b) / 2 then qz lt g (l1.map f) a s ((a+b) / 2)else l1.map f:=by
     split
     ·exact AU g _ _ _ _
     ·rfl
    rw[<-h2];generalize(if a<s/\s<(a+b) / 2 then qz (λx y=>lt (f x) (f y)) g l1 a s ((a+b) / 2)else l1)=l2;split
    ·exact AU g _ _ _ _
    ·rfl
theorem TL(n:ab):∀(g a:ab) (l:Y α),(Vv (λx y=>lt (f x) (f y)) n g a l).map f=Vv lt n g a (l.map f)
 |0,_,l=>F9 f lt _ _ _
 |g+1,a,l=>by
  unfold Vv;split
  ·rw[TL n g,F9]
  ·exact F9 f lt _ _ _
theorem TM(n bs:ab):∀(g a:ab) (l:Y α),(stM (λx y=>lt (f x) (f y)) n bs g a l).map f=stM lt n bs g a (l.map f)
 |0,_,l=>rfl
 |g+1,a,l=>by
  unfold stM;split
  ·rw[TM n bs g,AU]
  ·split
   ·exact AU f lt _ _ _ _ _
   ·rfl
theorem TN(n:ab):∀(g bs:ab) (l:Y α),(XE (λx y=>lt (f x) (f y)) n g bs l).map f=XE lt n g bs (l.map f)
 |0,_,l=>rfl
 |g+1,bs,l=>by
  unfold XE;split
  ·rw[TN n g,TM]
  ·rfl
theorem Gb(l:Y α):(lE (λx y=>lt (f x) (f y)) l).map f=lE lt (l.map f):=by
 unfold lE;rw[TN,TL,bF]
end
section
set_option maxRecDepth 100000
abbrev aa3(T:Type)(en:T->Y aR)(e0 z0 f_:ab):Prop:=∀(G:dA) (cmp:aR) (a:ah aX) (c a0 b0 cn:ab) (A B C:ae) (hA:A=a0) (hB:B=b0) (hC:C=cn) (l:Y T) (ha:a0+cn<=l.length) (HW:b0+cn<=l.length) (hs:l.length<=1000000000000),TR be G f_ #[.slice a l.length c,.int .i64 A,.int .i64 B,.int .i64 C,cmp] [own e0 z0 a l.length c (l.flatMap en)]
 (dC λv B=>v=.tuple #[]/\B=[own e0 z0 a l.length c ((Ny a0 b0 cn 0 l).flatMap en)])
abbrev aa4(T:Type)(en:T->Y aR)(e0 z0 f_:ab):Prop:=∀(G:dA) (cmp:aR) (a:ah aX) (c a0 m0 b0:ab) (A M B:ae) (hA:A=a0) (hM:M=m0) (hB:B=b0) (l:Y T) (h1:a0<m0) (h2:m0<b0) (HW:b0<=l.length) (hs:l.length<=1000000000000),TR be G f_ #[.slice a l.length c,.int .i64 A,.int .i64 M,.int .i64 B,cmp] [own e0 z0 a l.length c (l.flatMap en)]
 (dC λv B=>v=.tuple #[]/\B=[own e0 z0 a l.length c ((ru m0 (b0 - a0) (m0 - a0) (b0 - m0) l).flatMap en)])
abbrev aa5(T:Type)(en:T->Y aR)(e0 z0 f_:ab):Prop:=∀(G:dA) (cf:T->T->ae) (fc:ab) [CF be fc] (hc:∀x y:T,TR be G fc #[.agg (en x).toArray,.agg (en y).toArray] [] (dX (.int .i64 (cf x y)))) (a:ah aX) (c a0 b0:ab) (A B:ae) (hA:A=a0) (hB:B=b0) (l:Y T) (HW:b0<=l.length) (ha0:a0<=l.length) (hs:l.length<=1000000000000),TR be G f_ #[.slice a l.length c,.int .i64 A,.int .i64 B,.func (.func fc) #[] #[]] [own e0 z0 a l.length c (l.flatMap en)]
 (dC λv B=>v=.tuple #[]/\B=[own e0 z0 a l.length c ((Cm (λx y=>decide (cf x y<0)) l a0 b0).flatMap en)])
abbrev aa6(T:Type)(en:T->Y aR)(e0 z0 f_:ab):Prop:=∀(G:dA) (cf:T->T->ae) (fc:ab) [CF be fc] (hc:∀x y:T,TR be G fc #[.agg (en x).toArray,.agg (en y).toArray] [] (dX (.int .i64 (cf x y)))),∀(f:ab) (a:ah aX) (c a0 m0 b0:ab) (A M B:ae) (_:A=a0) (_:M=m0) (_:B=b0) (l:Y T) (_:a0<m0) (_:m0<b0) (_:b0<=l.length) (_:b0 - a0<=f) (_:l.length<=1000000000000),
 TR be G f_ #[.slice a l.length c,.int .i64 A,.int .i64 M,.int .i64 B,.func (.func fc) #[] #[]] [own e0 z0 a l.length c (l.flatMap en)]
  (dC λv B=>v=.tuple #[]/\B=[own e0 z0 a l.length c ((qz (λx y=>decide (cf x y<0)) f l a0 m0 b0).flatMap en)])
abbrev aa7(T:Type)(en:T->Y aR)(e0 z0 f_:ab):Prop:=∀(G:dA) (cf:T->T->ae) (fc:ab) [CF be fc] (hc:∀x y:T,TR be G fc #[.agg (en x).toArray,.agg (en y).toArray] [] (dX (.int .i64 (cf x y)))) (a:ah aX) (c:ab) (l:Y T) (hs:l.length<=1000000000000),TR be G f_ #[.slice a l.length c,.int .i64 l.length,.func (.func fc) #[] #[]] [own e0 z0 a l.length c (l.flatMap en)]
 (dC λv B=>v=.tuple #[]/\B=[own e0 z0 a l.length c ((lE (λx y=>decide (cf x y<0)) l).flatMap en)])
abbrev Gc(T:Type)(en:T->Y aR)(e0 z0 f_:ab):Prop:=∀(G:dA) (cf:T->T->ae) (fc:ab) [CF be fc] (hc:∀x y:T,TR be G fc #[.agg (en x).toArray,.agg (en y).toArray] [] (dX (.int .i64 (cf x y)))) (a:ah aX) (n c:ab) (l:Y T) (hn:l.length=n) (hs:n<=1000000000000),TR be G f_ #[.slice a n c,.func (.func fc) #[] #[]] [own e0 z0 a n c (l.flatMap en)]
 (dC λv B=>v=.tuple #[]/\B=[own e0 z0 a n c ((lE (λx y=>decide (cf x y<0)) l).flatMap en)])
theorem aa8(h:p:=by
 subst hA hB hC;refine TR.go (us:=[_,_,_,_,_]) (bH U) λb O hb hG=>xS ?_;refine X.loop (ι:={q:ab×ab×Y T // q.2.1+q.1=cn/\q.2.2.length=l.length/\Ny a0 b0 q.1 q.2.1 q.2.2=Ny a0 b0 cn 0 l})
  (λq=>([(0,.slice a l.length c),(1,.int .i64 a0),(2,.int .i64 b0),(3,.int .i64 cn),(10,.int .i64 (q.1.2.1:ae))],[own e0 z0 a l.length c (q.1.2.2.flatMap en)])) (λq=>q.1.1) ⟨(cn,0,l),by simp,U,U⟩ (Sub.of U) bA ?_
 rintro⟨⟨k,i,m⟩,h1,h2,h3⟩ ih;dsimp only at h1 h2 h3 ⊢;refine yB (i<cn) (i=cn) ?_ ?_<;>intro hi
 ·obtain⟨k,rfl⟩:∃k',k=k'+1:=⟨k - 1,by omega⟩;have jT:b0+i<m.length:=bw;have mX:a0+i<m.length:=bw;refine xS ?_;refine gZ a bw λg hg=>?_;subst hg;refine fG (sG [0,1,2,3,4,5,6,7,8,9,10,11,12,14,15,16,17,18,20,22]) [] U ?_;apply dB [0,1,2,3,4,5,6,7,8,9,10,11,12,14,15,16,17,18] U U U
  ·intro p hp;refine xS ?_;refine eA (j:=b0+i) U U U U bw bw (xS ?_);refine eA (j:=a0+i) U U U U bw bw (xS ?_);exact hp
  ·rfl
  ·rfl
  refine eN U U U U U ?_ ?_
  ·refine ja (cC:=en) (l:=m) (b0+i) U U U U (λ_=>rfl) (bT _) jT (xS ?_);refine ja (cC:=en) (l:=m) (a0+i) U U U U (λ_=>rfl) (bT _) mX (xS ?_);exact bI4
  ·refine ja (cC:=en) (l:=m) (a0+i) U U U U (λ_=>rfl) (bT _) mX (xS ?_);refine ja (cC:=en) (l:=m) (b0+i) U U U U (λ_=>rfl) (bT _) jT (xS ?_);exact bI4
 ·obtain rfl:k=0:=bw;refine xS ?_;rw[show Ny a0 b0 0 i m=m from rfl]at h3;subst h3;exact xF
):p:=h
theorem aa9(h:p:=by
 subst hA hM hB
 refine TR.go (us:=[_,_,_,_,_]) (bH U) λb O hb hG=>?_
 refine xS ?_
 generalize cD:ru m0 (b0 - a0) (m0 - a0) (b0 - m0) l=res
 refine X.loop (ι:={q:ab×ab×ab×Y T // 0<q.2.1/\0<q.2.2.1/\q.2.1<=m0/\m0+q.2.2.1<=l.length/\q.2.1+q.2.2.1<=q.1/\q.2.2.2.length=l.length/\ru m0 q.1 q.2.1 q.2.2.1 q.2.2.2=res})
  (λq=>([(0,.slice a l.length c),(1,.int .i64 a0),(2,.int .i64 m0),(3,.int .i64 b0),(4,cmp),(10,.int .i64 (q.1.2.1:ae)),(11,.int .i64 (q.1.2.2.1:ae))],[own e0 z0 a l.length c (q.1.2.2.2.flatMap en)])) (λq=>q.1.2.1+q.1.2.2.1) ⟨(b0 - a0,m0 - a0,b0 - m0,l),by dsimp only;omega,by dsimp only;omega,by dsimp only;omega,by dsimp only;omega,by dsimp only;omega,U,cD⟩
  (Sub.cons U (Sub.cons U (Sub.cons U (Sub.cons U (Sub.cons U (Sub.cons (dI U (by simp;omega)) (Sub.cons (dI U (by simp;omega)) (Sub.nil _)))))))) bA ?_
 clear cD
 rintro⟨⟨f,i,j,q⟩,g1,g2,g3,g4,g5,g6,g7⟩ ih
 dsimp only at g1 g2 g3 g4 g5 g6 g7 ⊢
 obtain⟨f,rfl⟩:∃k,f=k+1:=⟨f - 1,by omega⟩
 have e1:ru m0 (f+1) i j q=if i=j then Ny (m0 - i) m0 i 0 q else if j<i then ru m0 f (i - j) j (Ny (m0 - i) m0 j 0 q)else ru m0 f i (j - i) (Ny (m0 - i) (m0+j - i) i 0 q):=U
 refine xS ?_
 refine X.cond U (λh=>?_) (λh=>?_)
 ·have Av:i≠j:=by simp at h;omega
  rw[aj Av]at e1
  refine xS ?_
  refine X.cond U (λh3=>?_) (λh3=>?_)
  ·have h3:j<i:=by simpa using h3
   rw[ao h3]at e1
   refine xS ?_
   rw[<-g6]
   refine cM hG (Gd G cmp a c (m0 - i) m0 j _ _ _ (by omega) U U q (by omega) (by omega) (by omega)) U U U bS.es ?_
   rintro v B ⟨rfl,rfl⟩
   dsimp only[bh,bk,bj]
   rw[g6]
   refine xS ?_
   refine X.less (ih ⟨(f,i - j,j,Ny (m0 - i) m0 j 0 q),by dsimp only;omega,g2,by dsimp only;omega,g4,by dsimp only;omega,by rw[(wC _ _ _ _ _).length_eq];exact g6,by rw[<-g7,e1]⟩ (by dsimp only;omega)) (Sub.cons U (Sub.cons U (Sub.cons U (Sub.cons U (Sub.cons U (Sub.cons (dI U (by simp;omega)) (Sub.cons U (Sub.nil _)))))))) bA
  ·have h3:¬j<i:=by simpa using h3
   rw[aj h3]at e1
   refine xS ?_
   rw[<-g6]
   refine cM hG (Gd G cmp a c (m0 - i) (m0+j - i) i _ _ _ (by omega) (by omega) U q (by omega) (by omega) (by omega)) U U U bS.es ?_
   rintro v B ⟨rfl,rfl⟩
   dsimp only[bh,bk,bj]
   rw[g6]
   refine xS ?_
   refine X.less (ih ⟨(f,i,j - i,Ny (m0 - i) (m0+j - i) i 0 q),g1,by dsimp only;omega,g3,by dsimp only;omega,by dsimp only;omega,by rw[(wC _ _ _ _ _).length_eq];exact g6,by rw[<-g7,e1]⟩ (by dsimp only;omega)) (Sub.cons U (Sub.cons U (Sub.cons U (Sub.cons U (Sub.cons U (Sub.cons U (Sub.cons (dI U (by simp;omega)) (Sub.nil _)))))))) bA
 ·have Av:i=j:=by simp at h;omega
  subst Av
  rw[ao U]at e1
  refine xS ?_
  rw[<-g6]
  refine cM hG (Gd G cmp a c (m0 - i) m0 i _ _ _ (by omega) U U q (by omega) (by omega) (by omega)) U U U bS.es ?_
  rintro v B ⟨rfl,rfl⟩
  dsimp only[bh,bk,bj]
  rw[g6]
  refine xS ?_
  exact X.fin hb (.tmps U) ⟨_,⟨U,U⟩,by rw[<-g7,e1];exact bA⟩
):p:=h
theorem ab0(h:p:=by
 subst hA hB;refine TR.go (us:=[_,_,_,_]) (bH U) λb O hb hG=>?_;generalize vz:(λx y=>decide (cf x y<0))=lt;have ab1:∀x y,lt x y=decide (cf x y<0):=λx y=>by rw[<-vz]
 refine xS ?_;refine X.loop (ι:={q:ab×Y T // a0+1<=q.1/\q.2.length=l.length/\Nw lt a0 (b0 - q.1) q.1 q.2=Cm lt l a0 b0})
  (λq=>([(0,.slice a l.length c),(1,.int .i64 a0),(2,.int .i64 b0),(3,.func (.func fc) #[] #[]),(8,.int .i64 (q.1.1:ae))],[own e0 z0 a l.length c (q.1.2.flatMap en)])) (λq=>b0 - q.1.1) ⟨(a0+1,l),bz _,U,U⟩ (MN U U U U (dI U dW)) bA ?_
 rintro⟨⟨i,m⟩,h1,h2,h3⟩ ih;dsimp only at h1 h2 h3 ⊢;refine yB (i<b0) (b0 - i=0) ?_ ?_<;>intro hi
 ·refine xS ?_;refine nk (ι:={q:Y T // q=zo lt a0 i m}) (λq=>([(0,.slice a l.length c),(1,.int .i64 a0),(2,.int .i64 b0),(3,.func (.func fc) #[] #[]),(8,.int .i64 (i:ae))],[own e0 z0 a l.length c (q.1.flatMap en)])) (λq=>?_) (λK fin=>?_)
  ·obtain⟨q,rfl⟩:=q;dsimp only;refine xS ?_;refine X.less (ih ⟨(i+1,zo lt a0 i m),by dsimp only;omega,by rw[(Co lt a0 i m).length_eq];exact h2,?_⟩ oQ) (MN U U U U (dI U dW)) bA;rw[<-h3,show b0 - i=(b0 - (i+1))+1 from by omega];rfl
  ·refine X.loop (ι:={q:ab×Y T // q.1<=i/\q.2.length=l.length/\zo lt a0 q.1 q.2=zo lt a0 i m})
    (λq=>([(0,.slice a l.length c),(1,.int .i64 a0),(2,.int .i64 b0),(3,.func (.func fc) #[] #[]),(8,.int .i64 (i:ae)),(9,.int .i64 (q.1.1:ae))],[own e0 z0 a l.length c (q.1.2.flatMap en)])) (λq=>q.1.1) ⟨(i,m),bz _,h2,U⟩ (Sub.of U) bA ?_
   rintro⟨⟨j,q⟩,g1,g2,g3⟩ rb;dsimp only at g1 g2 g3 ⊢;by_cases hj:a0<j
   ·obtain⟨j,rfl⟩:∃k,j=k+1:=⟨j - 1,by omega⟩;have jT:j+1<q.length:=bw;have mX:j<q.length:=bw;refine xS ?_;refine gZ a bw λg hg=>?_;subst hg;refine fG (sG [0,1,2,3,4,5,6,7,8,9,10,11,12,13,15,16]) [own e0 z0 (aN ⟨g,0,aO⟩) l.length c (q.flatMap en)] U ?_;apply dB [0,1,2,3,4,5,6,7,8,9,10,11,12,13] U U U
    ·intro p hp;refine xS ?_;refine bD 21 aP U fD (xS ?_);refine eA (j:=j+1) U U U U bw bw (xS ?_);refine ja (cC:=en) (l:=q) (j+1) U U U U (λ_=>rfl) (bT _) jT (xS ?_);refine eA (j:=j) U U U U bw bw (xS ?_);refine ja (cC:=en) (l:=q) j U U U U (λ_=>rfl) (bT _) mX (xS ?_);exact hp
    ·rfl
    ·rfl
    refine xS ?_;refine oN (fst:=[]) (us:=[_,_]) (cap:=[]) hG (hc q[j+1] q[j]) U U U U  ?_;refine xB ?_ ?_<;>intro h5
    ·have h6:sI lt q (j+1) j=aP:=by rw[EB lt jT mX,ab1];exact h5
     refine xS ?_;refine fG (sG [0,1,2,3,4,5,6,7,8,10,11,12,14,16]) [] U ?_;apply dB [0,1,2,3,4,5,6,7,8,10,11,12] U U U
     ·intro p hp;refine xS ?_;refine eA (j:=j) U U U U bw bw (xS ?_);refine eA (j:=j+1) U U U U bw bw (xS ?_);exact hp
     ·rfl
     ·rfl
     refine eN U U U U U ?_ ?_
     ·refine ja (cC:=en) (l:=q) (j) U U U U (λ_=>rfl) (bT _) mX (xS ?_);refine ja (cC:=en) (l:=q) (j+1) U U U U (λ_=>rfl) (bT _) jT (xS ?_);exact bI5
     ·refine ja (cC:=en) (l:=q) (j+1) U U U U (λ_=>rfl) (bT _) jT (xS ?_);refine ja (cC:=en) (l:=q) (j) U U U U (λ_=>rfl) (bT _) mX (xS ?_);exact bI5
    ·have h6:¬sI lt q (j+1) j=aP:=by rw[EB lt jT mX,ab1];simpa using h5
     have g4:zo lt a0 (j+1) q=q:=by unfold zo;rw[aj (λhh=>h6 hh.2)]
     rw[g4]at g3;refine xS ?_;exact X.W (fin ⟨q,g3⟩)
   ·have g4:zo lt a0 j q=q:=by
     cases j with
     |zero=>rfl
     |succ j=>unfold zo;rw[aj (λhh=>hj hh.1)]
    rw[g4]at g3;refine xS ?_;refine fG (sG [0,1,2,3,4,5,6,7,8,9,10,11,12,13,14,15,16]) [] U ?_;apply dB [0,1,2,3,4,5,6,7,8,9,10,11,12,13,14,15,16] U U U
    ·intro p hp;refine xS ?_;refine bD 21 aQ U fD (xS ?_);exact hp
    ·rfl
    ·rfl
    refine xS ?_;exact X.W (fin ⟨q,g3⟩)
 ·refine xS ?_;rw[hi]at h3;rw[show Nw lt a0 0 i m=m from rfl]at h3;subst h3;exact xF
):p:=h
theorem yCx(c d:Prop){p q r:Prop}(k:c->q)(l:d->r)(h:oI (c->q)->oI (d->r)->p:=by(intro hq hr;refine xS ?_;refine X.cond U ?_ ?_;(intro h;exact hq.out (by first|(simp at h;omega)|grind));(intro h;exact hr.out (by first|(simp at h;omega)|grind)))):p:=h ⟨k⟩ ⟨l⟩
theorem ab2{p:Prop}(h:p:=by
 subst hA hM hB;refine TR.go (us:=[_,_,_,_,_]) (bH U) λb O hb hG=>?_;generalize vz:(λx y=>decide (cf x y<0))=lt at*;have ab1:∀x y,lt x y=decide (cf x y<0):=λx y=>by rw[<-vz]
 have e1:qz lt (f+1) l a0 m0 b0=
  if m0 - a0=1 then shU (H0 (λh=>sI lt l h a0) (b0 - m0) m0 b0 - 1 - a0) a0 l
  else if b0 - m0=1 then shD (m0 - H0 (λh=> !sI lt l m0 h) (m0 - a0) a0 m0) m0 l
  else
   if(a0+b0) / 2<(a0+b0) / 2+m0 - jw lt l a0 m0 b0/\(a0+b0) / 2+m0 - jw lt l a0 m0 b0<b0 then
    qz lt f (if a0<jw lt l a0 m0 b0/\jw lt l a0 m0 b0<(a0+b0) / 2 then qz lt f (if jw lt l a0 m0 b0<m0/\m0<(a0+b0) / 2+m0 - jw lt l a0 m0 b0 then ru m0 ((a0+b0) / 2+m0 - jw lt l a0 m0 b0 - jw lt l a0 m0 b0) (m0 - jw lt l a0 m0 b0) ((a0+b0) / 2+m0 - jw lt l a0 m0 b0 - m0) l else l) a0 (jw lt l a0 m0 b0) ((a0+b0) / 2)
     else if jw lt l a0 m0 b0<m0/\m0<(a0+b0) / 2+m0 - jw lt l a0 m0 b0 then ru m0 ((a0+b0) / 2+m0 - jw lt l a0 m0 b0 - jw lt l a0 m0 b0) (m0 - jw lt l a0 m0 b0) ((a0+b0) / 2+m0 - jw lt l a0 m0 b0 - m0) l else l) ((a0+b0) / 2) ((a0+b0) / 2+m0 - jw lt l a0 m0 b0) b0
   else(if a0<jw lt l a0 m0 b0/\jw lt l a0 m0 b0<(a0+b0) / 2 then qz lt f (if jw lt l a0 m0 b0<m0/\m0<(a0+b0) / 2+m0 - jw lt l a0 m0 b0 then ru m0 ((a0+b0) / 2+m0 - jw lt l a0 m0 b0 - jw lt l a0 m0 b0) (m0 - jw lt l a0 m0 b0) ((a0+b0) / 2+m0 - jw lt l a0 m0 b0 - m0) l else l) a0 (jw lt l a0 m0 b0) ((a0+b0) / 2)
    else if jw lt l a0 m0 b0<m0/\m0<(a0+b0) / 2+m0 - jw lt l a0 m0 b0 then ru m0 ((a0+b0) / 2+m0 - jw lt l a0 m0 b0 - jw lt l a0 m0 b0) (m0 - jw lt l a0 m0 b0) ((a0+b0) / 2+m0 - jw lt l a0 m0 b0 - m0) l else l):=U
 generalize qz lt (f+1) l a0 m0 b0=res at*;refine xB ?_ ?_<;>intro h
 ·have h3:m0 - a0=1:=sH;rw[ao h3]at e1;generalize hp:(λh=>sI lt l h a0)=p at*;have vo:∀h,p h=sI lt l h a0:=λh=>by rw[<-hp]
  refine xS ?_;have hI:=AT p (b0 - m0) m0 b0 bw;generalize hIe:H0 p (b0 - m0) m0 b0=I at*;refine nk (ι:=aA) (λ_=>([(0,.slice a l.length c),(1,.int .i64 a0),(2,.int .i64 m0),(3,.int .i64 b0),(4,.func (.func fc) #[] #[]),(10,.int .i64 (I:ae))],[own e0 z0 a l.length c (l.flatMap en)])) (λ_=>?_) (λK fin=>?_)
  ·dsimp only;refine xS ?_;refine X.loop (ι:={q:ab×ab×Y T // q.2.1+q.1=I - 1/\q.2.2.length=l.length/\shU q.1 q.2.1 q.2.2=res})
    (λq=>([(0,.slice a l.length c),(1,.int .i64 a0),(2,.int .i64 m0),(3,.int .i64 b0),(4,.func (.func fc) #[] #[]),(10,.int .i64 (I:ae)),(13,.int .i64 (q.1.2.1:ae))],[own e0 z0 a l.length c (q.1.2.2.flatMap en)])) (λq=>q.1.1) ⟨(I - 1 - a0,a0,l),by dsimp only;omega,U,e1.symm⟩ (Sub.of U) bA ?_
   rintro⟨⟨cn,k,q⟩,g1,g2,g3⟩ ih;dsimp only at g1 g2 g3 ⊢;refine yCx (k+1<I) (cn=0) ?_ ?_<;>intro h4
   ·obtain⟨cn,rfl⟩:∃w,cn=w+1:=⟨cn - 1,by omega⟩;have jT:k<q.length:=bw;have mX:k+1<q.length:=bw;refine xS ?_;refine gZ a bw λg hg=>?_;subst hg;refine fG (sG [0,1,2,3,4,5,6,7,8,10,11,12,14,16]) [] U ?_;apply dB [0,1,2,3,4,5,6,7,8,10,11,12] U U U
    ·intro p hp;refine xS ?_;refine eA (j:=k+1) U U U U bw bw (xS ?_);exact a16
    ·rfl
    ·rfl
    refine eN U U U U U ?_ ?_
    ·refine ja (cC:=en) (l:=q) (k+1) U U U U (λ_=>rfl) (bT _) mX (xS ?_);refine ja (cC:=en) (l:=q) (k) U U U U (λ_=>rfl) (bT _) jT (xS ?_);exact bI6
    ·refine ja (cC:=en) (l:=q) (k) U U U U (λ_=>rfl) (bT _) jT (xS ?_);refine ja (cC:=en) (l:=q) (k+1) U U U U (λ_=>rfl) (bT _) mX (xS ?_);exact bI6
   ·subst h4;rw[show shU 0 k q=q from rfl]at g3;subst g3;exact xR
  ·refine X.loop (ι:={q:ab×ab×ab // q.2.1<=q.2.2/\m0<=q.2.1/\q.2.2<=b0/\q.2.2 - q.2.1<=q.1/\H0 p q.1 q.2.1 q.2.2=I})
    (λq=>([(0,.slice a l.length c),(1,.int .i64 a0),(2,.int .i64 m0),(3,.int .i64 b0),(4,.func (.func fc) #[] #[]),(10,.int .i64 (q.1.2.1:ae)),(11,.int .i64 (q.1.2.2:ae))],[own e0 z0 a l.length c (l.flatMap en)])) (λq=>q.1.2.2 - q.1.2.1) ⟨(b0 - m0,m0,b0),by dsimp only;omega,bz _,bz _,bz _,hIe⟩ (Sub.of U) bA ?_
   rintro⟨⟨f2,i,j⟩,g1,g2,g3,g4,g5⟩ ih;dsimp only at g1 g2 g3 g4 g5 ⊢;refine yCx (i<j) (i=j) ?_ ?_<;>intro h4
   ·obtain⟨f3,rfl⟩:∃k,f2=k+1:=⟨f2 - 1,by omega⟩;refine xS ?_;rw[K4 i j bw];have jT:(i+j) / 2<l.length:=bw;have mX:a0<l.length:=bw;refine gZ a bw λg hg=>?_;subst hg;refine fG (sG [0,1,2,3,4,5,6,7,8,10]) [own e0 z0 (aN ⟨g,0,aO⟩) l.length c (l.flatMap en)] U ?_;apply dB [0,1,2,3,4,5,6,7,8] U U U
    ·intro pp qb;refine xS ?_;refine eA (j:=(i+j) / 2) U U U U bw bw (xS ?_);refine ja (cC:=en) (l:=l) ((i+j) / 2) U U U U (λ_=>rfl) (bT _) jT (xS ?_);refine eA (j:=a0) U U U U bw bw (xS ?_);refine ja (cC:=en) (l:=l) (a0) U U U U (λ_=>rfl) (bT _) mX (xS ?_);exact qb
    ·rfl
    ·rfl
    refine xS ?_;refine oN (fst:=[]) (us:=[_,_]) (cap:=[]) hG (hc l[(i+j) / 2] l[a0]) U U U U  ?_;exact bI7
   exact ab3
 ·have h3:¬m0 - a0=1:=sH;rw[aj h3]at e1;refine yCx (b0 - m0=1) (¬b0 - m0=1) ?_ ?_<;>intro h8
  ·rw[ao h8]at e1;generalize hp:(λh=> !sI lt l m0 h)=p at*;have vo:∀h,p h= !sI lt l m0 h:=λh=>by rw[<-hp]
   refine xS ?_;have hI:=AT p (m0 - a0) a0 m0 bw;generalize hIe:H0 p (m0 - a0) a0 m0=I at*;refine nk (ι:=aA) (λ_=>([(0,.slice a l.length c),(1,.int .i64 a0),(2,.int .i64 m0),(3,.int .i64 b0),(4,.func (.func fc) #[] #[]),(14,.int .i64 (I:ae))],[own e0 z0 a l.length c (l.flatMap en)])) (λ_=>?_) (λK fin=>?_)
   ·dsimp only;refine xS ?_;refine X.loop (ι:={q:ab×ab×Y T // q.2.1=I+q.1/\q.2.1<=m0/\q.2.2.length=l.length/\shD q.1 q.2.1 q.2.2=res})
     (λq=>([(0,.slice a l.length c),(1,.int .i64 a0),(2,.int .i64 m0),(3,.int .i64 b0),(4,.func (.func fc) #[] #[]),(14,.int .i64 (I:ae)),(17,.int .i64 (q.1.2.1:ae))],[own e0 z0 a l.length c (q.1.2.2.flatMap en)])) (λq=>q.1.1) ⟨(m0 - I,m0,l),by dsimp only;omega,bz _,U,e1.symm⟩ (Sub.of U) bA ?_
    rintro⟨⟨cn,k,q⟩,g1,g0,g2,g3⟩ ih;dsimp only at g0 g1 g2 g3 ⊢;refine yCx (I<k) (cn=0) ?_ ?_<;>intro h4
    ·obtain⟨cn,rfl⟩:∃w,cn=w+1:=⟨cn - 1,by omega⟩;have jT:k<q.length:=bw;have mX:k - 1<q.length:=bw;refine xS ?_;refine gZ a bw λg hg=>?_;subst hg;refine fG (sG [0,1,2,3,4,5,6,7,8,10,11,12,14,16]) [] U ?_;apply dB [0,1,2,3,4,5,6,7,8,10,11,12] U U U
     ·intro p hp;refine xS ?_;refine eA (j:=k - 1) U U U U bw bw (xS ?_);exact a16
     ·rfl
     ·rfl
     refine eN U U U U U ?_ ?_
     ·refine ja (cC:=en) (l:=q) (k - 1) U U U U (λ_=>rfl) (bT _) mX (xS ?_);refine ja (cC:=en) (l:=q) (k) U U U U (λ_=>rfl) (bT _) jT (xS ?_);exact bI8
     ·refine ja (cC:=en) (l:=q) (k) U U U U (λ_=>rfl) (bT _) jT (xS ?_);refine ja (cC:=en) (l:=q) (k - 1) U U U U (λ_=>rfl) (bT _) mX (xS ?_);exact bI8
    ·subst h4;rw[show shD 0 k q=q from rfl]at g3;subst g3;exact xR
   ·refine X.loop (ι:={q:ab×ab×ab // q.2.1<=q.2.2/\a0<=q.2.1/\q.2.2<=m0/\q.2.2 - q.2.1<=q.1/\H0 p q.1 q.2.1 q.2.2=I})
     (λq=>([(0,.slice a l.length c),(1,.int .i64 a0),(2,.int .i64 m0),(3,.int .i64 b0),(4,.func (.func fc) #[] #[]),(14,.int .i64 (q.1.2.1:ae)),(15,.int .i64 (q.1.2.2:ae))],[own e0 z0 a l.length c (l.flatMap en)])) (λq=>q.1.2.2 - q.1.2.1) ⟨(m0 - a0,a0,m0),by dsimp only;omega,bz _,bz _,bz _,hIe⟩ (Sub.of U) bA ?_
    rintro⟨⟨f2,i,j⟩,g1,g2,g3,g4,g5⟩ ih;dsimp only at g1 g2 g3 g4 g5 ⊢;refine yCx (i<j) (i=j) ?_ ?_<;>intro h4
    ·obtain⟨f3,rfl⟩:∃k,f2=k+1:=⟨f2 - 1,by omega⟩;refine xS ?_;rw[K4 i j bw];have mX:(i+j) / 2<l.length:=bw;have jT:m0<l.length:=bw;refine gZ a bw λg hg=>?_;subst hg;refine fG (sG [0,1,2,3,4,5,6,7,8,10,11]) [own e0 z0 (aN ⟨g,0,aO⟩) l.length c (l.flatMap en)] U ?_;apply dB [0,1,2,3,4,5,6,7,8] U U U
     ·intro pp qb;refine xS ?_;refine eA (j:=m0) U U U U bw bw (xS ?_);refine ja (cC:=en) (l:=l) (m0) U U U U (λ_=>rfl) (bT _) jT (xS ?_);exact a18
     ·rfl
     ·rfl
     refine xS ?_;refine oN (fst:=[]) (us:=[_,_]) (cap:=[]) hG (hc l[m0] l[(i+j) / 2]) U U U U  ?_;exact bI7
    exact ab3
  ·rw[aj h8]at e1;obtain⟨r1,r2,r3,r4,r5⟩:=Vw h1 h2;have hT:jw lt l a0 m0 b0=H0 (λc=> !sI lt l ((a0+b0) / 2+m0 - 1 - c) c) (Cn a0 m0 b0 - Ec a0 m0 b0) (Ec a0 m0 b0) (Cn a0 m0 b0):=U;have hI:=AT (λc=> !sI lt l ((a0+b0) / 2+m0 - 1 - c) c) (Cn a0 m0 b0 - Ec a0 m0 b0) (Ec a0 m0 b0) (Cn a0 m0 b0) r2;rw[<-hT]at hI;have hS:Ec a0 m0 b0=if(a0+b0) / 2<m0 then(a0+b0) / 2+m0 - b0 else a0:=U;have hR:Cn a0 m0 b0=if(a0+b0) / 2<m0 then(a0+b0) / 2 else m0:=U;generalize hp:(λc=> !sI lt l ((a0+b0) / 2+m0 - 1 - c) c)=p at*;have vo:∀h,p h= !sI lt l ((a0+b0) / 2+m0 - 1 - h) h:=λh=>by rw[<-hp]
   clear hp;have hmd1:a0<=(a0+b0) / 2/\(a0+b0) / 2<b0/\a0<(a0+b0) / 2:=bw;have hmd2:(a0+b0) / 2<m0->b0<=(a0+b0) / 2+m0:=bw;refine xS ?_;rw[K4 a0 b0 bw];refine xS ?_;generalize Ec a0 m0 b0=s0 at*;generalize Cn a0 m0 b0=r0 at*;generalize hIe:jw lt l a0 m0 b0=I at*;generalize(a0+b0) / 2=md at*;have hIe:=hT.symm;clear hT;refine iK (ι:=aA) (λ_=>([(0,.slice a l.length c),(1,.int .i64 a0),(2,.int .i64 m0),(3,.int .i64 b0),(4,.func (.func fc) #[] #[]),(18,.int .i64 (md:ae)),(19,.int .i64 ((md+m0:ab):ae)),(20,.int .i64 (s0:ae)),(21,.int .i64 (r0:ae))],[own e0 z0 a l.length c (l.flatMap en)])) (λ_=>?_) (λK fin=>?_)
   ·dsimp only;refine xS ?_;rw[show((md+m0:ab):ae) - 1=((md+m0 - 1:ab):ae)from by omega];refine nk (ι:=aA) (λ_=>([(0,.slice a l.length c),(1,.int .i64 a0),(2,.int .i64 m0),(3,.int .i64 b0),(4,.func (.func fc) #[] #[]),(18,.int .i64 (md:ae)),(19,.int .i64 ((md+m0:ab):ae)),(20,.int .i64 (I:ae))],[own e0 z0 a l.length c (l.flatMap en)])) (λ_=>?_) (λK fin=>?_)
    ·dsimp only;refine xS ?_;have e8:=r5 I hI.1 hI.2;rw[show((md+m0:ab):ae) - I=((md+m0 - I:ab):ae)from by omega];generalize md+m0 - I=E at*;generalize zp:(if I<m0/\m0<E then ru m0 (E - I) (m0 - I) (E - m0) l else l)=l1 at*;generalize qx:(if a0<I/\I<md then qz lt f l1 a0 I md else l1)=l2 at*;have n1:l1.length=l.length:=by
      rw[<-zp];split
      ·exact(Cp _ _ _ _ _).length_eq
      ·rfl
     have n2:l2.length=l.length:=by
      rw[<-qx];split
      ·rw[(rK _ _ _ _ _ _).length_eq];exact n1
      ·exact n1
     refine iK (ι:=aA) (λ_=>([(0,.slice a l.length c),(1,.int .i64 a0),(2,.int .i64 m0),(3,.int .i64 b0),(4,.func (.func fc) #[] #[]),(18,.int .i64 (md:ae)),(19,.int .i64 ((md+m0:ab):ae)),(20,.int .i64 (I:ae)),(24,.int .i64 (E:ae))],[own e0 z0 a l.length c (l1.flatMap en)])) (λ_=>?_) (λK fin=>?_)
     ·dsimp only;refine xS ?_;refine iK (ι:=aA) (λ_=>([(0,.slice a l.length c),(1,.int .i64 a0),(2,.int .i64 m0),(3,.int .i64 b0),(4,.func (.func fc) #[] #[]),(18,.int .i64 (md:ae)),(19,.int .i64 ((md+m0:ab):ae)),(20,.int .i64 (I:ae)),(24,.int .i64 (E:ae))],[own e0 z0 a l.length c (l2.flatMap en)])) (λ_=>?_) (λK fin=>?_)
      ·dsimp only;refine yT 209 (md<E) (¬md<E) ?_ ?_<;>intro k3
       ·refine yCx (E<b0) (¬E<b0) ?_ ?_<;>intro k4
        ·rw[ao ⟨k3,k4⟩]at e1;subst e1;refine xS ?_;rw[<-n2];refine xH (IH a c md E b0 _ _ _ U U U l2 k3 k4 bw bw bw) ?_;rw[n2];exact xF
        ·rw[aj (λhh=>k4 hh.2)]at e1;subst e1;exact xF
       ·rw[aj (λhh=>k3 hh.1)]at e1;subst e1;exact xF
      ·clear e1;refine yT 195 (a0<I) (¬a0<I) ?_ ?_<;>intro k1
       ·refine yCx (I<md) (¬I<md) ?_ ?_<;>intro k2
        ·rw[ao ⟨k1,k2⟩]at qx;subst qx;refine xS ?_;rw[<-n1];refine xH (IH a c a0 I md _ _ _ U U U l1 k1 k2 bw bw bw) ?_;rw[n1];exact Je
        ·rw[aj (λhh=>k2 hh.2)]at qx;subst qx;exact Je
       ·rw[aj (λhh=>k1 hh.1)]at qx;subst qx;exact Je
     ·clear e1 qx;refine yT 181 (I<m0) (¬I<m0) ?_ ?_<;>intro k1
      ·refine yCx (m0<E) (¬m0<E) ?_ ?_<;>intro k2
       ·rw[ao ⟨k1,k2⟩]at zp;subst zp;refine xE (QU G _ a c I m0 E _ _ _ U U U l k1 k2 bw bw) ?_;exact X.W (fin ())
       ·rw[aj (λhh=>k2 hh.2)]at zp;subst zp;exact Je
      ·rw[aj (λhh=>k1 hh.1)]at zp;subst zp;exact Je
    ·refine X.loop (ι:={q:ab×ab×ab // q.2.1<=q.2.2/\s0<=q.2.1/\q.2.2<=r0/\q.2.2 - q.2.1<=q.1/\H0 p q.1 q.2.1 q.2.2=I})
      (λq=>([(0,.slice a l.length c),(1,.int .i64 a0),(2,.int .i64 m0),(3,.int .i64 b0),(4,.func (.func fc) #[] #[]),(18,.int .i64 (md:ae)),(19,.int .i64 ((md+m0:ab):ae)),(22,.int .i64 ((md+m0 - 1:ab):ae)),(20,.int .i64 (q.1.2.1:ae)),(21,.int .i64 (q.1.2.2:ae))],[own e0 z0 a l.length c (l.flatMap en)])) (λq=>q.1.2.2 - q.1.2.1) ⟨(r0 - s0,s0,r0),by dsimp only;omega,bz _,bz _,bz _,hIe⟩ (Sub.of U) bA ?_
     rintro⟨⟨f2,i,j⟩,g1,g2,g3,g4,g5⟩ ih;dsimp only at g1 g2 g3 g4 g5 ⊢;refine yCx (i<j) (i=j) ?_ ?_<;>intro h4
     ·obtain⟨f3,rfl⟩:∃k,f2=k+1:=⟨f2 - 1,by omega⟩;refine xS ?_;rw[K4 i j bw];have hx3:=r5 ((i+j) / 2) bw bw;have mX:(i+j) / 2<l.length:=bw;have jT:md+m0 - 1 - (i+j) / 2<l.length:=bw;refine gZ a bw λg hg=>?_;subst hg;refine fG (sG [0,1,2,3,4,5,6,7,8,9,10,12,13]) [own e0 z0 (aN ⟨g,0,aO⟩) l.length c (l.flatMap en)] U ?_;apply dB [0,1,2,3,4,5,6,7,8,9,10] U U U
      ·intro pp qb;refine xS ?_;refine eA (j:=md+m0 - 1 - (i+j) / 2) U U U U bw bw (xS ?_);refine ja (cC:=en) (l:=l) (md+m0 - 1 - (i+j) / 2) U U U U (λ_=>rfl) (bT _) jT (xS ?_);exact a18
      ·rfl
      ·rfl
      refine xS ?_;refine oN (fst:=[]) (us:=[_,_]) (cap:=[]) hG (hc l[md+m0 - 1 - (i+j) / 2] l[(i+j) / 2]) U U U U  ?_;refine xB ?_ ?_<;>intro h5
      ·have h6:p ((i+j) / 2)=aP:=bI9;rw[a14 h4 h6]at g5;refine xS ?_;refine X.less (ih ⟨(f3,(i+j) / 2+1,j),by dsimp only;omega,by dsimp only;omega,g3,by dsimp only;omega,g5⟩ oQ) (Sub.cons U (Sub.cons U (Sub.cons U (Sub.cons U (Sub.cons U (Sub.cons U (Sub.cons U (Sub.cons U (Sub.cons (dI U dW) (Sub.of U)))))))))) bA
      ·exact bV4
     exact ab3
   ·refine yCx (md<m0) (¬md<m0) ?_ ?_<;>intro h9
    ·rw[ao h9]at hS hR;have PA:=hmd2 h9;refine xS ?_;refine X.less (fin ()) (s9_ U U U U U U (dI U dW) (dI U (by rw[hS];simp;omega)) (dI U (by rw[hR]))) bA
    ·rw[aj h9]at hS hR;refine xS ?_;refine X.less (fin ()) (s9_ U U U U U U (dI U dW) (dI U (by rw[hS])) (dI U (by rw[hR]))) bA
):p:=h
theorem ab4(h:p:=by
 refine jy U λb O hb hG=>?_;have I1:=QV G cf fc hc;have I2:=QW G cf fc hc;generalize vz:(λx y=>decide (cf x y<0))=lt at*;have e1:lE lt l=XE lt l.length l.length 20 (Vv lt l.length l.length 0 l):=U;generalize lE lt l=res at*;generalize zp:Vv lt l.length l.length 0 l=l1 at*;have n1:l1.length=l.length:=by rw[<-zp];exact(F6 _ _ _ _ _).length_eq
 refine xS ?_;refine nk (ι:={q:ab×Y T // q.1<=l.length/\q.2.length=l.length/\Cm lt q.2 q.1 l.length=l1}) (λq=>([(0,.slice a l.length c),(1,.int .i64 l.length),(2,.func (.func fc) #[] #[]),(6,.int .i64 20),(7,.int .i64 (q.1.1:ae))],[own e0 z0 a l.length c (q.1.2.flatMap en)])) (λq=>?_) (λK fin=>?_)
 ·obtain⟨⟨a0,q⟩,g1,g2,g3⟩:=q;dsimp only at g1 g2 g3 ⊢;refine xS ?_;rw[<-g2];refine xI (I1 a c a0 q.length _ _ U U q (bz _) bw bw) ?_;rw[g2,g3];refine xD ?_;refine X.loop (ι:={q:ab×ab×Y T // 0<q.2.1/\q.2.1<=2*l.length+40/\l.length<=q.1+q.2.1/\q.2.2.length=l.length/\XE lt l.length q.1 q.2.1 q.2.2=res}) (λq=>([(0,.slice a l.length c),(1,.int .i64 l.length),(2,.func (.func fc) #[] #[]),(6,.int .i64 (q.1.2.1:ae))],[own e0 z0 a l.length c (q.1.2.2.flatMap en)])) (λq=>q.1.1) ⟨(l.length,20,l1),by dsimp only;omega,by dsimp only;omega,by dsimp only;omega,n1,e1.symm⟩ (Sub.of U) bA ?_;clear e1 zp n1 g1 g2 g3;rintro⟨⟨f,bs,q⟩,g1,g2,g3,g4,g5⟩ ih;dsimp only at g1 g2 g3 g4 g5 ⊢;refine yB (bs<l.length) (¬bs<l.length) ?_ ?_<;>intro h
  ·obtain⟨f,rfl⟩:∃k,f=k+1:=⟨f - 1,by omega⟩;have e2:XE lt l.length (f+1) bs q=if bs<l.length then XE lt l.length f (bs*2) (stM lt l.length bs (l.length+1) 0 q)else q:=U;rw[ao h]at e2;rw[e2]at g5;generalize Xx:stM lt l.length bs (l.length+1) 0 q=q1 at*;have n2:q1.length=l.length:=by rw[<-Xx,(F7 _ _ _ _ _ _).length_eq];exact g4
   refine xS ?_;refine nk (ι:={z:ab×Y T // z.1<=l.length/\z.2.length=l.length/\(if z.1+bs<l.length then qz lt l.length z.2 z.1 (z.1+bs) l.length else z.2)=q1}) (λz=>([(0,.slice a l.length c),(1,.int .i64 l.length),(2,.func (.func fc) #[] #[]),(6,.int .i64 (bs:ae)),(7,.int .i64 (z.1.1:ae))],[own e0 z0 a l.length c (z.1.2.flatMap en)])) (λz=>?_) (λK2 y7=>?_)
   ·obtain⟨⟨a0,z⟩,k1,k2,k3⟩:=z;dsimp only at k1 k2 k3 ⊢;refine xS ?_;rw[show(a0:ae)+bs=((a0+bs:ab):ae)from by omega];refine iK (ι:=aA) (λ_=>([(0,.slice a l.length c),(1,.int .i64 l.length),(2,.func (.func fc) #[] #[]),(6,.int .i64 (bs:ae))],[own e0 z0 a l.length c (q1.flatMap en)])) (λ_=>?_) (λK aE8=>?_)
    ·dsimp only;refine xS ?_;refine X.less (ih ⟨(f,bs*2,q1),by dsimp only;omega,by dsimp only;omega,by dsimp only;omega,n2,g5⟩ oQ) (Qm U U U (dI U dW)) bA
    ·refine yB (a0+bs<l.length) (¬a0+bs<l.length) ?_ ?_<;>intro h4
     ·rw[ao h4]at k3;subst k3;refine xS ?_;rw[<-k2];refine xH (I2 z.length a c a0 (a0+bs) z.length _ _ _ U U U z bw bw (bz _) bw bw) ?_;rw[k2];refine xS ?_;exact X.W (aE8 ())
     ·rw[aj h4]at k3;subst k3;refine xS ?_;exact X.W (aE8 ())
   ·refine X.loop (ι:={z:ab×ab×Y T // z.2.1<=l.length/\l.length<z.1+z.2.1/\z.2.2.length=l.length/\stM lt l.length bs z.1 z.2.1 z.2.2=q1}) (λz=>([(0,.slice a l.length c),(1,.int .i64 l.length),(2,.func (.func fc) #[] #[]),(6,.int .i64 (bs:ae)),(7,.int .i64 (z.1.2.1:ae)),(8,.int .i64 ((z.1.2.1+2*bs:ab):ae))],[own e0 z0 a l.length c (z.1.2.2.flatMap en)])) (λz=>z.1.1) ⟨(l.length+1,0,q),bp _,by dsimp only;omega,g4,Xx⟩ (s6_ U U U U U (dI U dW)) bA ?_;rintro⟨⟨f2,a0,z⟩,k1,k2,k3,k4⟩ rb;dsimp only at k1 k2 k3 k4 ⊢;obtain⟨f2,rfl⟩:∃k,f2=k+1:=⟨f2 - 1,by omega⟩;have e3:stM lt l.length bs (f2+1) a0 z=if a0+2*bs<=l.length then stM lt l.length bs f2 (a0+2*bs) (qz lt l.length z a0 (a0+bs) (a0+2*bs))else if a0+bs<l.length then qz lt l.length z a0 (a0+bs) l.length else z:=U;refine yB (a0+2*bs<=l.length) (¬a0+2*bs<=l.length) ?_ ?_<;>intro h4
    ·rw[ao h4]at e3;rw[e3]at k4;refine xS ?_;rw[show(a0:ae)+bs=((a0+bs:ab):ae)from by omega];have h5:TR be G f3 #[.slice a l.length c,.int .i64 (a0:ae),.int .i64 ((a0+bs:ab):ae),.int .i64 ((a0+2*bs:ab):ae),.func (.func fc) #[] #[]] [own e0 z0 a l.length c (z.flatMap en)] (dC λv B=>v=.tuple #[]/\B=[own e0 z0 a l.length c ((qz lt l.length z a0 (a0+bs) (a0+2*bs)).flatMap en)]):=by
      have h6:=I2 l.length a c a0 (a0+bs) (a0+2*bs) _ _ _ U U U z bw bw bw bw bw;rw[k3]at h6;exact h6
     refine xE h5 ?_;refine X.less (rb ⟨(f2,a0+2*bs,qz lt l.length z a0 (a0+bs) (a0+2*bs)),h4,by dsimp only;omega,by rw[(rK _ _ _ _ _ _).length_eq];exact k3,k4⟩ oQ) (s6_ U U U U U (dI U dW)) bA
    ·rw[aj h4]at e3;refine xS ?_;exact X.W (y7 ⟨(a0,z),k1,k3,by rw[<-k4,e3]⟩)
  ·have e2:XE lt l.length f bs q=q:=by
    cases f with
    |zero=>rfl
    |succ f=>show(if bs<l.length then _ else _)=_;rw[aj h]
   rw[e2]at g5;subst g5;exact xF
 ·refine X.loop (ι:={q:ab×ab×Y T // q.2.1<=l.length/\l.length<=q.1+q.2.1/\q.2.2.length=l.length/\Vv lt l.length q.1 q.2.1 q.2.2=l1}) (λq=>([(0,.slice a l.length c),(1,.int .i64 l.length),(2,.func (.func fc) #[] #[]),(6,.int .i64 20),(7,.int .i64 (q.1.2.1:ae)),(8,.int .i64 ((q.1.2.1+20:ab):ae))],[own e0 z0 a l.length c (q.1.2.2.flatMap en)])) (λq=>q.1.1) ⟨(l.length,0,l),bp _,bz _,U,zp⟩ (Sub.of U) bA ?_;clear e1 zp n1;rintro⟨⟨f,a0,q⟩,g1,g2,g3,g4⟩ ih;dsimp only at g1 g2 g3 g4 ⊢;refine yB (a0+20<=l.length) (¬a0+20<=l.length) ?_ ?_<;>intro h
  ·obtain⟨f,rfl⟩:∃k,f=k+1:=⟨f - 1,by omega⟩;have e2:Vv lt l.length (f+1) a0 q=if a0+20<=l.length then Vv lt l.length f (a0+20) (Cm lt q a0 (a0+20))else Cm lt q a0 l.length:=U;rw[ao h]at e2;rw[e2]at g4;refine xS ?_;rw[<-g3];refine xI (I1 a c a0 (a0+20) _ _ U U q bw bw bw) ?_;rw[g3];refine xD ?_;refine X.less (ih ⟨(f,a0+20,Cm lt q a0 (a0+20)),h,by dsimp only;omega,by rw[(xN _ _ _ _).length_eq];exact g3,g4⟩ oQ) (s6_ U U U U U (dI U dW)) bA
  ·have e2:Vv lt l.length f a0 q=Cm lt q a0 l.length:=by
    cases f with
    |zero=>rfl
    |succ f=>show(if a0+20<=l.length then _ else _)=_;rw[aj h]
   rw[e2]at g4;refine xS ?_;exact X.W (fin ⟨(a0,q),g1,g3,g4⟩)
):p:=h
theorem Ge(h:p:=by
 subst hn;refine bZ U λb O hb hG=>?_;refine xE (QX G cf fc hc a c l hs) ?_;exact xF
):p:=h
end
end
section
variable(u:az)(l:Y ca)(G:dA)(a:ah aX)(n c:ab)(q:Y (WB ca))(nm:Bs)(i:ab)
namespace SN
abbrev T:=WB Eb
abbrev en:T->Y aR:=mD
abbrev e0:ab:=262
abbrev z0:ab:=3
abbrev f5:ab:=500
abbrev f4:ab:=484
abbrev f2:ab:=441
abbrev f3:ab:=442
abbrev f1:ab:=364
abbrev f0:ab:=261
theorem Gd:aa3 T en 262 3 500:=by
 intro G cmp a c a0 b0 cn A B C hA hB hC l ha HW hs
 exact aa8
theorem QU:aa4 T en 262 3 484:=by
 intro G cmp a c a0 m0 b0 A M B hA hM hB l h1 h2 HW hs
 exact aa9
theorem QV:aa5 T en 262 3 441:=by
 intro G cf fc _ hc a c a0 b0 A B hA hB l HW ha0 hs
 exact ab0
theorem QW:aa6 T en 262 3 442:=by
 intro G cf fc _ hc
 intro f
 induction f with
 |zero=>intro _ _ a0 m0 b0 _ _ _ _ _ _ l h1 h2 _ hf _;exact aD hf (by omega)
 |succ f IH=>
  intro a c a0 m0 b0 A M B hA hM hB l h1 h2 HW hf hs
  exact ab2
theorem QX:aa7 T en 262 3 364:=by
 intro G cf fc _ hc a c l hs
 exact ab4
theorem ua:Gc T en 262 3 261:=by
 intro G cf fc _ hc a n c l hn hs
 exact Ge
end SN
instance bs3(s:Bs):FJ be 260 [bn s] [] (.bool (eO s)):=⟨λG=>by
 refine dH U λb O hb hG=>?_;refine xT 6 ?_ ?_<;>intro h
 ·exact aX7
 ·have h1:s=[]:=Ca;subst h1;refine xS ?_;exact cT hb (.tmps U) ⟨U,U⟩⟩
theorem ab5(b3:ab)(nm:Bs)(x:WB ca):TR be G 271 #[.agg (bY x).toArray,bu b3] [dZ [bx b3 9 [bn nm]]] (dC λv B=>v=.bool (x.1.name==nm)/\B=[dZ [bx b3 9 [bn nm]]]):=by
 refine bZ U λb O hb hG=>?_;refine mc [bx b3 9 [bn nm]] (xD ?_);refine xP ?_;intro b2;refine hU [bx b3 9 [bn nm]] ?_;exact xR
def jI(l:Y ca)(nm:Bs):ae:=dM (λf=>f.name==nm) 0 l
theorem Cq{α γ:Type}(f:α->γ)(p:γ->ai):∀(i:ab) (l:Y α),dM (λx=>p (f x)) i l=dM p i (l.map f)
 |_,[]=>rfl
 |i,x::r=>by
  unfold dM;rw[bN];dsimp only;rw[Cq f p (i+1) r]
theorem xX(hn:q.length=n)(hs:n<=1099511627776):
 TR be G 173 #[.slice a n c,bn nm] [dp (cy bY) 2 a q] (dX (bR (jI (q.map (·.1)) nm))):=by
 refine bZ U λb O hb hG=>?_
 refine xP ?_
 intro b3
 refine hU [bx b3 9 [bn nm]] ?_
 refine xE (aa1 G 271 [bu b3] [bx b3 9 [bn nm]] (λx=>x.1.name==nm) a n c q hn hs (λx _=>ab5 G b3 nm x)) ?_
 refine cT hb (.tmps U) ⟨?_,U⟩
 grind [mv,jI,Cq]
def cq(l:Y ca):ab:=(l.map λf=>f.data.length).sum
theorem wD(f:ca):cq (l++[f])=cq l+f.data.length:=NG
theorem qA(h:i<l.length):cq (l.take (i+1))=cq (l.take i)+l[i].data.length:=by
 grind [cg,wD]
theorem ub:cq (l.take i)<=cq l:=by
 grind [cq,dV]
theorem r9(hn:q.length=n)(hs:n<=1099511627776)(hu:cq (q.map (·.1))<=1000000000000000000):
 TR be G 166 #[.slice a n c] [dp (cy bY) 2 a q] (dX (bR (cq (q.map (·.1))))):=by
 refine dH U λb O hb hG=>xS ?_
 refine fR [6] [] (ι:={i:ab // i<=n}) (λi q_=>(3,bR (cq ((q.map (·.1)).take i.1)))::(7,bR n)::(8,bR i.1)::q_) (λi q_=>q_) (λi=>n - i.1) ⟨0,bp _⟩ ?_
 rintro⟨i,hi⟩ ih
 dsimp only
 refine xB ?_ ?_<;>intro h
 ·have hi:i<q.length:=sH;have h1:=qA (q.map (·.1)) i K5;have h2:=ub (q.map (·.1)) (i+1);simp only[gG]at h1;refine xS ?_;refine dJ U U U U U hi hn λbl o=>?_;generalize q[i]=x at*;refine xS ?_;refine eT U U U U  ?_;refine xA ?_;intro b5;refine X.less (ih ⟨i+1,by omega⟩ oQ) (Qm (dI U (by simp only[bR];congr 1;omega)) U U (dI U nM)) bA
 ·have gj:i=n:=sH;subst gj;rw[bI fD];exact xR
def mY(l:Y ca):ai:=l.all (λf=>eO f.name)&&decide (l.map (·.name)).Nodup&&decide (cq l<=4194304)
theorem wE(p:ca->ai):∀(l:Y ca) (k i:ab) (_:i<l.length),dM p k l=((k+i:ab):ae)↔p l[i]=aP/\∀j (_:j<i),p l[j]=aQ
 |x::r,k,i,h=>by
  unfold dM;cases i with
  |zero=>
   cases hp:p x
   ·simp only[di,aI];constructor
    ·intro hh;have:∀(r:Y ca) (k:ab),dM p (k+1) r≠(k:ae):=by
      intro r;induction r with
      |nil=>intro k;unfold dM;omega
      |cons y s ih=>
       intro k;unfold dM;split
       ·omega
       ·intro h2;have h3:∀(s:Y ca) (m:ab),dM p m s= -1\/(m:ae)<=dM p m s:=by
         intro s;induction s with
         |nil=>intro m;left;rfl
         |cons z u rb=>
          intro m;unfold dM;split
          ·right;omega
          ·rcases rb (m+1)with h|h
           ·left;exact h
           ·right;omega
        rcases h3 s (k+1+1)with h|h<;>omega
     exact aD hh (this r k)
    ·rintro⟨h1,_⟩;simp[hp]at h1
   ·simp[hp]
  |succ i=>
   have ih:=wE p r (k+1) i Au;cases hp:p x
   ·simp only[di,aI];rw[show k+(i+1)=k+1+i from by omega,ih];constructor
    ·rintro⟨h1,h2⟩;refine⟨by simpa using h1,λj hj=>?_⟩;cases j with
     |zero=>simpa using hp
     |succ j=>simpa using h2 j bw
    ·rintro⟨h1,h2⟩;exact⟨by simpa using h1,λj hj=>by simpa using h2 (j+1) bw⟩
   ·simp only[if_true];constructor
    ·intro hh;omega
    ·rintro⟨_,h2⟩;have:=h2 0 bw;simp[hp]at this
theorem Vx(h:(l.map (·.name)).Nodup)(i:ab)(hi:i<l.length):jI l l[i].name=(i:ae):=by
 grind [wE,List.pairwise_iff_getElem,jI]
theorem Vy(h:∀i (hi:i<l.length),jI l l[i].name=(i:ae)):(l.map (·.name)).Nodup:=by
 grind [List.pairwise_iff_getElem]
theorem TO(hn:q.length=n)(hs:n<=1099511627776)(hu:cq (q.map (·.1))<=1000000000000):
 TR be G 165 #[.slice a n c] [dp (cy bY) 2 a q] (dX (.bool (mY (q.map (·.1))))):=by
 refine dH U λb O hb hG=>?_
 have pi:=λnm=>xX G a n c q nm hn hs
 have pu:=r9 G a n c q hn hs bw
 have hml:(q.map (·.1)).length=n:=UU
 have hxe0:∀i (h:i<q.length),(q.map (·.1))[i]?=aN q[i].1:=bQ
 generalize q.map (·.1)=Q at*
 have hm:mY Q=(Q.all (λf=>eO f.name)&&decide (Q.map (·.name)).Nodup&&decide (cq Q<=4194304)):=U
 generalize mY Q=res at*
 refine xS ?_
 refine fR [0,5] [] (ι:={i:ab // i<=n/\∀j (hj:j<Q.length),j<i->eO Q[j].name=aP/\jI Q Q[j].name=(j:ae)}) (λi q_=>(6,bR n)::(7,bR i.1)::q_) (λi q_=>q_) (λi=>n - i.1) ⟨0,bp _,λj _ h=>by omega⟩ ?_
 rintro⟨i,hi,hE⟩ ih
 dsimp only
 refine xB ?_ ?_<;>intro h
 ·have hi:i<q.length:=bQ;have ZM:Q[i]' bw=q[i].1:=bQ;refine xS ?_;refine dJ U U U U U hi hn λbl o=>?_;generalize q[i]=x at*;refine xS ?_;refine eT U U U U  ?_;refine xA ?_;intro b4;refine yT 16 (eO x.1.name=aQ) (eO x.1.name=aP) ?_ ?_<;>intro h1
  ·have:res=aQ:=by
    grind
   subst this;exact xR
  ·refine xJ (pi x.1.name) ?_;refine yB (¬jI Q x.1.name=(i:ae)) (jI Q x.1.name=(i:ae)) ?_ ?_<;>intro h2
   ·have:res=aQ:=by
     grind [Vx]
    subst this;exact xR
   ·refine xS ?_
    refine X.W (ih ⟨i+1,by omega,λj hj UO=>?_⟩ oQ)
    grind
 ·have gj:i=n:=bQ;subst gj;have j7:(Q.map (·.name)).Nodup:=by grind [Vy]
  have sF:(Q.all λf=>eO f.name)=aP:=by
   grind [List.mem_iff_getElem]
  rw[sF,aK j7]at hm;subst hm;refine xJ (pu) ?_;exact cT hb (.tmps U) ⟨by simp only[mv];congr 1;simp;omega,U⟩
theorem Vz(hn:q.length=n)(hs:n<=1099511627776):
 TR be G 369 #[.slice a n c] [dp (cy bY) 2 a q] (dC (UZ (λk:Bs=>[bn k]) 9 1 ((q.map (·.1)).map (·.name)))):=by
 refine dH U λb O hb hG=>?_
 generalize hL:(q.map (·.1)).map (·.name)=L
 have hLl:L.length=n:=bQ
 have hLx:∀i (h:i<q.length),L[i]' bw=q[i].1.name:=bQ
 refine xS ?_
 refine X.dE (fh 9 1 _) ?_
 refine fR [6] [0] (ι:={z:ab×ah aX×ab // z.1<=n}) (λz q_=>(3,.slice z.1.2.1 (L.take z.1.1).length z.1.2.2)::(7,bR n)::(8,bR z.1.1)::q_) (λz q_=>own 9 1 z.1.2.1 (L.take z.1.1).length z.1.2.2 ((L.take z.1.1).flatMap λk=>[bn k])::q_) (λz=>n - z.1.1) ⟨(0,aO,0),bp _⟩ ?_
 rintro⟨⟨i,a3,c3⟩,hi⟩ ih
 dsimp only at hi ⊢
 have hl:(L.take i).length<=n:=bQ
 refine xB ?_ ?_<;>intro h
 ·have hi:i<q.length:=bQ;have kl:L.take (i+1)=L.take i++[q[i].1.name]:=QY;generalize hr:L.take i=r at*;refine xS ?_;refine dJ U U U U U hi hn λbl o=>?_;generalize q[i]=x at*;refine xS ?_;refine eT U U U U  ?_;refine xA ?_;intro b5;refine xZ ?_;intro b7;refine fH (x.1.name) U U U U bw U cE cE cE cE cE bw λa8 c8=>xS ?_;refine X.less (ih ⟨(i+1,a8,c8),by omega⟩ bQ) ?_ ?_
  ·dsimp only;rw[kl];exact(Qm U U U (dI U nM))
  ·exact a19
 ·have gj:i=n:=bQ;subst gj;rw[bI bw];exact a38
theorem VA(hn:q.length=n)(hs:n<=1000000000000)(h0:a=aO->n=0/\c=0):
 TR be G 367 #[.slice a n c] [dp (cy bY) 2 a q] (dC (UZ bY 70 2 q)):=by
 refine dH U λb O hb hG=>?_
 refine xB ?_ ?_<;>intro h
 ·obtain rfl:a=aO:=Ca;obtain⟨rfl,rfl⟩:=h0 U;obtain rfl:q=[]:=List.length_eq_zero_iff.1 hn;refine xS ?_;exact X.ret hb (.tmps U) ⟨_,⟨aO,0,U,U⟩,(fh 70 2 _).trans (show bS [own 70 2 aO 0 0 [],dp (cy bY) 2 aO []] [own 70 2 aO 0 0 []]from bA)⟩
 ·refine xS ?_;refine PZ U U λbl=>xS ?_;refine Kp (cC:=bY) U U U U hn U (λ_=>rfl) (λ_=>rfl) U bw λa2 c2=>?_;subst hn;refine xS ?_;rw[bT];exact X.ret hb (.tmps U) ⟨_,⟨a2,c2,U,U⟩,by rw[bk];exact bA⟩
theorem a42(g c sz:ab):qw (aN ⟨g,0,aO⟩) c 0 sz=aN ⟨g,0,aO⟩:=by
 grind [qw,addr_add]
theorem Fq.one:∀v∈q.flatMap bY,v.oneCell'=aP:=by
 intro v hv;simp only[List.mem_flatMap,cW,List.not_mem_nil,or_false]at hv;obtain⟨x,_,rfl|rfl⟩:=hv<;>rfl
theorem ab6(h:i<q.length):(q.flatMap bY).take (i*2)++(q.flatMap bY).drop ((i+1)*2)=(q.eraseIdx i).flatMap bY:=by
 rw[AQ (sz:=2) (λ_=>rfl),Ez (sz:=2) (λ_=>rfl),<-List.flatMap_append,List.eraseIdx_eq_take_drop_succ]
theorem TQ(I J:ae)(hI:I=i)(hJ:J=(i+1:ab))(q:Y (WB ca))(hn:q.length=n)(hi:i<n)(hs:n<=1000000000000):
 TR be G 445 #[.slice a n c,.int .i64 I,.int .i64 J] [own 70 2 a n c (q.flatMap bY)] (dC (UZ bY 70 2 (q.eraseIdx i))):=by
 subst hI hJ
 refine jy U λb O hb hG=>?_
 refine gZ a bw λg hg=>?_
 subst hg
 refine nX (aN ⟨g,0,aO⟩) λ_ qn=>?_
 have Ia:(q.eraseIdx i).length=i+(n - (i+1)):=bQ
 refine xS ?_
 refine bB5 U U U U U U U U U bw bw qn λv=>xS ?_
 refine El (by rw[show(((i:ae)==((i+1:ab):ae))=aQ)from by simp;omega];rfl) (xS ?_)
 refine fU 6 [] ?_
 apply dB [0,1,2,3,4,5] U U U
 ·intro p hp;refine xS ?_;refine EX (l:=0) (h:=i) U U U Bd.no (Bd.at U U) bw bw ?_;rw[a42];refine xS ?_;refine EX (l:=i+1) (h:=n) U U U (Bd.at U U) Bd.no bw bw (xS ?_);exact hp
 ·rfl
 ·rfl
 refine xS ?_
 refine Yl (i:=i) (j:=i+1) U U U U bw bw (Fq.one q) ?_
 rw[ab6 q i bw,<-Ia]
 refine xS ?_
 have Xz:(q.eraseIdx i).length+1=n:=bw
 generalize q.eraseIdx i=r at*
 refine EX (l:=r.length) (h:=n) U U U (Bd.at U U) (Bd.at U U) bw bw (xS ?_)
 refine X0 U U bw U eK (xS ?_)
 exact cT hb (.tmps U) ⟨_,c,U,U⟩
instance:TZ be 484 (cQ 65 (.int .u8 0)):=⟨by kernel_rfl⟩
instance bS3:FJ be 359 [.int .i64 16] [] (.bool aP):=⟨λG=>by
 refine dH U λb O hb hG=>xS ?_;exact cT hb (.tmps U) ⟨by kernel_rfl,U⟩⟩
theorem bJ0(x:ab)(h:x<18446744073709551616):ee.wrap ((BitVec.ofInt ee.bits (x:ae)&&&BitVec.ofInt ee.bits 15).toNat:ae)=((x%16:ab):ae):=by
 have h1:(BitVec.ofInt ee.bits (x:ae)&&&BitVec.ofInt ee.bits 15).toNat=x%16:=by
  show(BitVec.ofInt 64 (x:ae)&&&BitVec.ofInt 64 15).toNat=_;rw[BitVec.toNat_and,BitVec.ofInt_natCast,BitVec.toNat_ofNat,Nat.mod_eq_of_lt h];exact Nat.and_two_pow_sub_one_eq_mod x 4
 grind [wrap_u64]
theorem TS(h:n<=64)(Gf:Y aR):cQ (65 - n) (gf .u8 0)++Gf=cQ (64 - n) (gf .u8 0)++(.int .u8 0)::Gf:=by
 rw[show 65 - n=(64 - n)+1 from by omega,List.replicate_succ',cB];rfl
theorem bJ1(m:ab):((m:ae).fdiv (2^(min (Int.toNat 4) ee.bits)))=((m / 16:ab):ae):=xq .u64 m 4 eK
theorem QZ:TR be GG 254 #[.slice aO 0 0,.int .u64 u.toNat,.int .i64 16,.bool aQ,.bool aQ] [] (dX (.tuple #[.slice aO 0 0,bn (KZ u.toNat)])):=by
 refine TR.go (us:=[_,_,_,_,_]) (bH U) λb O hb hG=>?_;refine xA ?_;intro Dn;refine xJ bH6 ?_;refine X.loop (ι:={p:ab×ab×Bs // p.2.1+p.2.2.length=17/\1<=p.2.1/\p.1<16^p.2.1/\p.1<18446744073709551616/\KZ u.toNat=KY p.2.1 p.1++p.2.2}) (λp=>([(1,.int .u64 p.1.1),(3,.bool aQ),(4,.bool aQ),(12,bu Dn),(13,.int .i64 (65 - p.1.2.2.length:ab)),(14,.int .u64 4),(15,.int .u64 16),(16,.int .u64 15),(10,.slice aO 0 0)],
  [bx Dn 484 (cQ (65 - p.1.2.2.length) (.int .u8 0)++p.1.2.2.map gT)])) (λp=>p.1.2.1) ⟨(u.toNat,17,[]),U,(by decide:1<=17),Nat.lt_of_lt_of_le u.toNat_lt (show 2^64<=16^17 by decide),u.toNat_lt,by simp[KZ]⟩ (Sub.cons U (Sub.cons U (Sub.cons U (Sub.cons U (Sub.cons U (Sub.cons (dI U iB) (Sub.cons (dI U iB) (Sub.cons (dI U iB) (Sub.of U))))))))) (by simp only[jo,bj];exact bS.refl _) ?_
 rintro⟨⟨x,f,Gf⟩,hf,hf1,hx,hx64,hE⟩ ih;dsimp only at hf hf1 hx hx64 hE ih ⊢;refine yB (16<=x) (x<16) ?_ ?_<;>intro h
 ·refine xS ?_
  rw[bJ0 x hx64]
  have qN:Gf.length<=15:=by
   grind
  obtain⟨f,rfl⟩:∃q,f=q+1:=⟨f - 1,by omega⟩
  rw[KY,aj bw]at hE
  refine jG (l:=d36) (j:=x%16) U U U U U (by have:d36.length=36:=U;omega) ?_
  rw[Tz (x%16) bw]
  refine Aa (j:=64 - Gf.length) U U U U bw bw ?_
  rw[TS _ bw]
  refine xS ?_
  refine X.st (LY:=cQ (64 - Gf.length) (.int .u8 0)++gT (ji (x%16))::Gf.map gT) U U U U U U ?_ ?_
  ·grind [Nk,gT,ji,List.length_replicate]
  refine xS ?_
  refine X.less (ih ⟨(x / 16,f,ji (x%16)::Gf),by grind,by grind,by grind,by omega,by rw[hE];simp⟩ bQ) (Sub.cons (dI U (by rw[bJ1])) (Sub.cons U (Sub.cons U (Sub.cons U (Sub.cons (dI U bQ) (Sub.of U)))))) ?_
  dsimp only
  rw[bN,bL,show 65 - (Gf.length+1)=64 - Gf.length from by omega]
  exact bA
 ·obtain⟨f,rfl⟩:∃q,f=q+1:=⟨f - 1,by omega⟩
  rw[KY,ao h]at hE
  refine xS ?_
  refine jG (l:=d36) (j:=x) U U U U U (by have:d36.length=36:=U;omega) ?_
  rw[Tz x h]
  refine Aa (j:=64 - Gf.length) U U U U bw bw ?_
  rw[TS _ bw]
  refine xS ?_
  refine X.st (LY:=cQ (64 - Gf.length) (.int .u8 0)++gT (ji x)::Gf.map gT) U U U U U U ?_ ?_
  ·grind [Nk,gT,List.length_replicate]
  refine xS ?_
  refine X8 (l:=64 - Gf.length) (h:=65) U U U (Bd.at U bw) Bd.no bw (bz _) bw ?_
  rw[bT,show 65 - (64 - Gf.length)=(ji x::Gf).length from by grind]
  refine jx Dn (λx=>[gT x]) (cQ (64 - Gf.length) 0++ji x::Gf) (by rw[<-lP];simp[gT]) (λ_=>rfl) ?_
  refine bk6 Dn (64 - Gf.length) dW ?_
  rw[show(cQ (64 - Gf.length) (0:au)++ji x::Gf).drop (64 - Gf.length)=ji x::Gf from by grind]
  exact bJ2
theorem ab7:TR be GG 159 #[.int .u64 u.toNat,.int .i64 16] [] (dX (bn (KZ u.toNat))):=by
 refine bZ U λb O hb hG=>?_;refine xJ (QZ u) ?_;exact xR
theorem Ed:TR be GG 109 #[.int .u64 u.toNat,.int .i64 16] [] (dX (bn (KZ u.toNat))):=by
 refine bZ U λb O hb hG=>?_;refine xJ (ab7 u) ?_;exact xR
theorem NH:∀(f k u:ab),u<16^(k+1)->(KY f u).length<=k+1
 |0,_,_,_=>bp _
 |f+1,k,u,h=>by
  unfold KY;split
  ·simp
  ·rename_i h1;cases k with
   |zero=>omega
   |succ k=>
    have:=NH f k (u / 16) bw
    grind
theorem Gg(n:av):(KZ n.toNat).length<=8:=NH 17 7 _ (Nat.lt_of_lt_of_le n.toNat_lt (show 2^32<=16^8 by decide))
def lX(c:ab):Bs:=sY.getD (2*c) []
def lY(c:ab):Bs:=sY.getD (2*c+1) []
def jk(c:ab)(n:av):Bs:=lX c++cQ (8 - (KZ n.toNat).length) 48++KZ n.toNat++lY c
theorem AV(hc:1<=c/\c<=3)(n:av):TR be GG 186 #[.int .i64 c,.int .u32 n.toNat] [] (dX (bn (jk c n))):=by
 refine bZ U λb O hb hG=>?_;have hl:=Gg n;have Q0:=hG.1.ZT;have Ia:D4 O.r 3 (0+2*c) [bn (lX c),bn (lY c)]:=by
  refine D4.sub Q0 ?_;intro j v hj;have:c=1\/c=2\/c=3:=bw;match j with
  |0=>grind [sY,lX]
  |1=>rcases this with rfl|rfl|rfl<;>simpa[sY,lY]using hj
  |j+2=>simp at hj
 have hhl:(lX c).length<=10/\(lY c).length<=10:=ab8;unfold jk;generalize lX c=hd at*;generalize lY c=tl at*;refine xS ?_;rw[show ee.wrap (n.toNat:ae)=(n.toUInt64.toNat:ae)from by rw[wrap_u64 _ (by have:=n.toNat_lt;omega)];simp];refine xJ (Ed n.toUInt64) ?_;rw[show n.toUInt64.toNat=n.toNat from by simp];generalize KZ n.toNat=hx at*;refine Mh 3 (0+2*c) [bn hd,bn tl] Ia (xS ?_);refine ph [0,1,2,3,4,5,6,8,9,10,11,12,13,14,15] [0] ?_;apply dB [0,1,2,3,4,5,6,9,11,12,13,14] U U U
 ·intro p hp;refine xS ?_;refine Aa (j:=c) U U U U U bw (xS ?_);refine qP U U U 0 bw U (xS ?_);refine Aa (j:=c) U U U U U bw (xS ?_);refine qP U U U 1 bw U (xS ?_);exact hp
 ·rfl
 ·rfl
 refine xS ?_;rw[show((8:ae) - (hx.length:ae))=((8 - hx.length:ab):ae)from by omega];refine xJ (Vp GG (8 - hx.length) bw) ?_;exact xR
end
end Go.Proofs
namespace Go.Proofs
open Go.Shelf
set_option maxRecDepth 8000
def yY:Go.Shelf.Ren:=⟨fun|316=>427|n=>n,fun|9=>9|3=>3|4=>4|37=>55|0=>0|127=>124|5=>5|n=>n,fun|n=>n⟩
theorem Fb:Go.Proofs.LaysM.n316 be yY:=Z0
end Go.Proofs
namespace Go.Proofs
open Go.Sl
set_option maxRecDepth 8000
section
variable{n:av}(name fn:Bs)(G:dA)(s:Bs)
instance:TIf be 62:=⟨_,Tryz.underlying62⟩
instance:QN be 476:=⟨by kernel_rfl⟩
instance:QN be 479:=⟨by kernel_rfl⟩
theorem NI(hq:G.q=aQ)(s:Bs)(hs:s.length<=1000000000000):TR be G 427 #[bn s] [] (dX (bn s)):=
 TR.below hq λw=>Any.stringslite_Clone Fb ⟨s.toArray⟩ w (by show s.toArray.size<=_;simp;omega)
def wF(c:au):au:=c|||32
instance bV5(c:au):FJ be 390 [gT c] [] (gT (wF c)):=⟨λG=>by
 refine dH U λb O hb hG=>?_;dsimp only[gT];refine xS ?_;exact cT hb (.tmps U) ⟨by have:=aU7 c 32;grind [mv,wF],U⟩⟩
def sJ(c:au):ab:=if 48<=c.toNat/\c.toNat<=57 then c.toNat - 48 else if 97<=(wF c).toNat/\(wF c).toNat<=122 then(wF c).toNat - 87 else 255
def AW:Bs->ab->ah ab
 |[],n=>aN n
 |c::r,n=>if 16<=sJ c then aO else if 4294967295<n*16+sJ c then aO else AW r (n*16+sJ c)
def AX(s:Bs):ah ab:=if s=[]then aO else AW s 0
def PuR(o:ah ab)(v:aR):Prop:=match o with
 |some n=>v=.tuple #[.int .u64 n,.nilIface]
 |none=>∃(n e:ae),(e=1\/e=2)/\v=.tuple #[.int .u64 n,.iface 476 (.int .i64 e)]
theorem NJ:∀(s:Bs) (n m:ab),n<=4294967295->AW s n=aN m->m<=4294967295
 |[],n,m,h,e=>by cases e;exact h
 |c::r,n,m,h,e=>by
  unfold AW at e;split at e
  ·cases e
  ·split at e
   ·cases e
   ·exact NJ r _ m bw e
theorem NK(hs:s.length<=1000000000000):TR be G 294 #[bn s,.int .i64 16,.int .i64 32] [] (dC λv B=>PuR (AX s) v/\B=[]):=by
 refine jy U λb O hb hG=>?_;have err:∀{N vs k H} (n e:ae),AX s=aO->(e=1\/e=2)->lk vs 6=aN (.int .u64 n)->lk vs 7=aN (.iface 476 (.int .i64 e))->X be b O aO (.it (.code .ret::k)) ⟨N,vs,[]⟩ H (dC λv B=>PuR (AX s) v/\B=[]):=by
  intro N vs k H n e he h1 h2 h3;exact cT hb (.tmp h2 (.tmp h3 .nil)) ⟨by rw[he];exact⟨n,e,h1,U⟩,U⟩
 refine yB (s=[]) (s≠[]) ?_ ?_<;>intro h1
 ·refine xS ?_;refine rN U U U (xS ?_);exact err 0 2 (by grind [AX]) (.inr U) U U
 ·have e0:AX s=AW s 0:=by grind [AX]
  refine xS ?_;refine Kn U U U λa c Jf=>xS ?_;refine X.loop (ι:={p:ab×ab // p.1<=s.length/\p.2<=4294967295/\AW s 0=AW (s.drop p.1) p.2}) (λp=>([(1,.int .i64 16),(8,.bool aQ),(10,.int .u64 1152921504606846976),(11,.int .u64 4294967295),(12,.bool aQ),(13,.int .u64 p.1.2),(99,.slice (aN a) s.length c),(100,.int .i64 s.length),(101,.int .i64 p.1.1)],[dp RB 1 (aN a) s])) (λp=>s.length - p.1.1) ⟨(0,0),bp _,by decide,U⟩
   (Sub.cons U (Sub.cons U (Sub.cons U (Sub.cons (dI U iB) (Sub.of U))))) (bS.refl _) ?_
  rintro⟨⟨i,n⟩,hi,hn,hE⟩ ih;dsimp only at hi hn hE ih ⊢;refine yB (i<s.length) (i=s.length) ?_ ?_<;>intro gj
  ·rw[bP gj,AW]at hE;refine xS ?_;refine dJ U U U U U gj U λbl o=>?_;generalize s[i]=ch at*;refine xS ?_;by_cases hc:ch=95
   ·subst hc;rw[ao eK]at hE;exact a43
   ·have hc':¬((ch.toNat:ae)=95):=by intro hh;exact hc (UInt8.toNat_inj.1 bQ)
    refine bD 109 aQ U bQ ?_;refine nk (ι:={_u:aA // sJ ch<=35}) (λ_=>([(1,.int .i64 16),(8,.bool aQ),(10,.int .u64 1152921504606846976),(11,.int .u64 4294967295),(12,.bool aQ),(13,.int .u64 n),(16,.int .u8 (sJ ch)),(99,.slice (aN a) s.length c),(100,.int .i64 s.length),(101,.int .i64 i)],[dp RB 1 (aN a) s])) (λu=>?_) (λK fin=>?_)
    ·obtain⟨_,hd⟩:=u;refine xB ?_ ?_<;>intro h3
     ·have h3:16<=sJ ch:=by
       have h9:dS.wrap 16=16:=eK
       grind
      rw[ao h3]at hE;exact a43
     ·have h3:¬16<=sJ ch:=by
       have h9:dS.wrap 16=16:=eK
       grind
      rw[aj h3]at hE;refine xB ?_ ?_<;>intro h4
      ·exact aD h4 fD
      ·refine xS ?_;rw[show ee.wrap ((n:ae)*ee.wrap 16)=((n*16:ab):ae)from by
        rw[show ee.wrap 16=16 from by kernel_rfl,show(n:ae)*16=((n*16:ab):ae)from by omega,wrap_u64 _ bw],
        wrap_u64 (sJ ch) bw,show((n*16:ab):ae)+((sJ ch:ab):ae)=((n*16+sJ ch:ab):ae)from by omega,wrap_u64 (n*16+sJ ch) bw]
       refine bD 155 aQ U fD  ?_;refine yB (4294967295<n*16+sJ ch) (¬4294967295<n*16+sJ ch) ?_ ?_<;>intro h5
       ·rw[ao h5]at hE;refine xS ?_;refine rN U U U (xS ?_);exact err _ 1 (by rw[e0,hE]) (.inl U) U U
       ·rw[aj h5]at hE;refine xS ?_;exact X.less (ih ⟨(i+1,n*16+sJ ch),gj,by omega,hE⟩ bQ) (s9_ U U U U U U U U (dI U dW)) bA
    ·refine xS ?_;have bad:∀{N vs k H},16<=sJ ch->lk vs 6=aN (.int .u64 0)->lk vs 7=aN (.iface 476 (.int .i64 2))->X be b O aO (.it (.code .ret::k)) ⟨N,vs,[]⟩ H (dC λv B=>PuR (AX s) v/\B=[]):=by
      intro N vs k H h9 h6 h7;rw[ao h9]at hE;exact err 0 2 (by rw[e0,hE]) (.inr U) h6 h7
     have low:¬(48<=ch.toNat/\ch.toNat<=57)->sJ ch=if 97<=(wF ch).toNat/\(wF ch).toNat<=122 then(wF ch).toNat - 87 else 255:=by
      grind [sJ]
     have dig:∀x:ae,(x:ae)=sJ ch->sJ ch<=35->True:=λ_ _ _=>trivial;refine yT 115 (48<=ch.toNat) (¬48<=ch.toNat) ?_ ?_<;>intro h3
     ·refine yB (ch.toNat<=57) (¬ch.toNat<=57) ?_ ?_<;>intro h4
      ·have hdv:sJ ch=ch.toNat - 48:=by grind [sJ]
       refine xS ?_;exact X.less (fin ⟨(),by omega⟩) (Sub.cons U (Sub.cons U (Sub.cons U (Sub.cons U (Sub.cons U (Sub.cons U (Sub.cons (dI U (by grind [wrap_u8])) (Sub.of U)))))))) bA
      exact bJ3
     exact bJ3
  ·subst gj;rw[List.drop_length,AW]at hE;refine xS ?_;exact cT hb (.tmps U) ⟨by rw[e0,hE];rfl,U⟩
theorem VB(hs:s.length<=1000000000000):TR be GG 351 #[bn fn,bn s] [] (dC λv B=>∃p,v=bu p/\B=[]):=by
 refine bZ U λb O hb hG=>?_;obtain⟨te,pe,hA⟩:=hG.1.e8;refine Mh 8 0 [.iface te pe] hA (xS ?_);exact a47
theorem VC(hs:s.length<=1000000000000):TR be GG 352 #[bn fn,bn s] [] (dC λv B=>∃p,v=bu p/\B=[]):=by
 refine bZ U λb O hb hG=>?_;obtain⟨te,pe,hA⟩:=hG.1.e9;refine Mh 9 0 [.iface te pe] hA (xS ?_);exact a47
theorem Q3(hs:s.length<=1000000000000)(x y e:ae)(he:e=1\/e=2):TR be GG 249 #[bn fn,bn s,.int .i64 x,.int .i64 y,.iface 476 (.int .i64 e)] [] (dC λv B=>∃p,v=.iface 479 (bu p)/\B=[]):=by
 refine TR.go (us:=[_,_,_,_,_]) (bH U) λb O hb hG=>?_;rcases he with rfl|rfl
 ·refine xS ?_;refine rN U U U ?_;refine P0 iB U U U U (xS ?_);refine rN U U U ?_;refine P0 iB U U U U (xS ?_);refine cP (VC fn s hs) ?_;exact a48
 ·refine xS ?_;refine rN U U U ?_;refine P0 iB U U U U (xS ?_);refine cP (VB fn s hs) ?_;exact a48
def bV7(o:ah ab)(v:aR):Prop:=match o with
 |some n=>v=.tuple #[.int .u64 n,.nilIface]
 |none=>∃(n:ae) (p:ab),v=.tuple #[.int .u64 n,.iface 479 (bu p)]
theorem K6(hs:s.length<=1000000000000):TR be GG 185 #[bn s,.int .i64 16,.int .i64 32] [] (dC λv B=>bV7 (AX s) v/\B=[]):=by
 refine jy U λb O hb hG=>xS ?_;refine cP (NK GG s hs) ?_;rintro v B ⟨hv,rfl⟩;dsimp only[bh,bk,bj];cases hp:AX s with
 |none=>
  rw[hp]at hv;obtain⟨n,e,he,rfl⟩:=hv;refine xS ?_;refine mO U U U U U (xS ?_);refine cP (Q3 [80,97,114,115,101,85,105,110,116] s hs 16 32 e he) ?_;rintro v B ⟨p,rfl,rfl⟩;refine xD ?_;exact cT hb (.tmps U) ⟨⟨n,p,U⟩,U⟩
 |some n=>
  rw[hp]at hv;have hv:_=_:=hv;subst hv;refine xS ?_;refine mO U U U U U (xS ?_);exact cT hb (.tmps U) ⟨by show _=_;rfl,U⟩
def jl:Bs:=[46,116,109,112]
def wG(name:Bs)(c:ab):ah av:=
 if(mB name (lX c)).2=aP/\(kP (mB name (lX c)).1 (lY c)).2=aP then
  match AX (kP (mB name (lX c)).1 (lY c)).1 with
  |some n=>if 0<n/\jk c (iN n)=name then aN (iN n)else aO
  |none=>aO
 else aO
def cR(name:Bs):ab×av:=
 if r7 name jl=aP then(4,0)else
 match wG name 1 with
 |some n=>(1,n)
 |none=>match wG name 2 with
  |some n=>(2,n)
  |none=>match wG name 3 with
   |some n=>(3,n)
   |none=>(0,0)
def zq:ab->Bs->ab->ab×av
 |0,_,_=>(0,0)
 |f+1,name,c=>match wG name c with
  |some n=>(c,n)
  |none=>zq f name (c+1)
theorem Q4:cR name=if r7 name jl=aP then(4,0)else zq 3 name 1:=by
 grind [cR,zq]
theorem Gh(p:Bs):(kP s p).1.length<=s.length:=by
 grind [kP]
theorem Q5(p:Bs):(mB s p).1.length<=s.length:=by
 grind [mB]
theorem NL{s:Bs}{n:ab}(h:AX s=aN n):n<=4294967295:=by
 unfold AX at h;split at h
 ·cases h
 ·exact NJ s 0 n bw h
theorem DA(n:ab):fi.wrap (n:ae)=((iN n).toNat:ae):=by
 rw[Az];simp
theorem n4(hs:name.length<=1000000000000):TR be GG 126 #[bn name] [] (dX (.tuple #[.int .i64 (cR name).1,.int .u32 (cR name).2.toNat])):=by
 refine dH U λb O hb hG=>?_;have Q0:=hG.1.ZT;have Ia:∀c,1<=c/\c<=3->D4 O.r 3 (0+2*c) [bn (lX c),bn (lY c)]:=by
  intro c hc;refine D4.sub Q0 ?_;intro j v hj;have:c=1\/c=2\/c=3:=bw;match j with
  |0=>rcases this with rfl|rfl|rfl<;>simpa[sY,lX]using hj
  |1=>rcases this with rfl|rfl|rfl<;>simpa[sY,lY]using hj
  |j+2=>simp at hj
 rw[Q4];refine xJ (aB9 GG name jl hs) ?_;refine xB ?_ ?_<;>intro h1
 ·rw[ao h1];exact xR
 ·rw[aj yz];generalize hR:zq 3 name 1=Rr;refine xS ?_;refine fR [0] [] (ι:={p:ab×ab // 1<=p.2/\p.1+p.2=4/\zq p.1 name p.2=Rr}) (λp q_=>(4,.int .i64 p.1.2)::q_) (λp q_=>q_) (λp=>p.1.1) ⟨(3,1),by decide,U,hR⟩ ?_;rintro⟨⟨f,c⟩,Fu,hfc,hE⟩ ih;dsimp only at Fu hfc hE ih ⊢;refine yB (c<=3) (¬c<=3) ?_ ?_<;>intro h2
  ·obtain⟨f,rfl⟩:∃q,f=q+1:=⟨f - 1,by omega⟩;refine Mh 3 (0+2*c) [bn (lX c),bn (lY c)] (Ia c ⟨Fu,h2⟩) ?_;rw[zq]at hE;have hT:wG name c=if(mB name (lX c)).2=aP/\(kP (mB name (lX c)).1 (lY c)).2=aP then
    match AX (kP (mB name (lX c)).1 (lY c)).1 with
    |some n=>if 0<n/\jk c (iN n)=name then aN (iN n)else aO
    |none=>aO
    else aO:=U
   have zp:=Q5 name (lX c);refine xS ?_;refine Aa (j:=c) U U U U U bw (xS ?_);refine qP U U U 0 bw U (xS ?_);generalize mB name (lX c)=q at*;obtain⟨s1,ok1⟩:=q;dsimp only at hT zp ⊢;refine Aa (j:=c) U U U U U bw (xS ?_);refine qP U U U 1 bw U  ?_;refine xJ (aC0 GG s1 (lY c) bw) ?_;have qx:=Gh s1 (lY c);generalize kP s1 (lY c)=q at*;obtain⟨s2,ok2⟩:=q;dsimp only at hT qx ⊢;refine xS ?_;refine cP (K6 s2 bw) ?_;rintro v B ⟨hv,rfl⟩;dsimp only[bh,bk,bj];cases hp:AX s2 with
   |none=>
    rw[hp]at hv hT;obtain⟨n,p,rfl⟩:=hv;have hT:wG name c=aO:=by rw[hT];split<;>rfl
    rw[hT]at hE;dsimp only at hE;cases ok1
    ·exact bJ4
    ·cases ok2
     ·exact bJ4
     ·refine xS ?_;refine mO U U U U U (xS ?_);exact mz8
   |some n=>
    rw[hp]at hv hT;have hv:_=_:=hv;subst hv;dsimp only at hT;have hn32:=NL hp;cases ok1
    ·exact a61
    ·cases ok2
     ·exact a61
     ·rw[ao ⟨U,U⟩]at hT;refine xS ?_;refine mO U U U U U  ?_;refine yT 52 (0<n) (¬0<n) ?_ ?_<;>intro h5
      ·refine xS ?_;rw[DA n];refine xJ (AV c ⟨Fu,h2⟩ (iN n)) ?_;refine yB (jk c (iN n)=name) (¬jk c (iN n)=name) ?_ ?_<;>intro h6
       ·rw[ao ⟨h5,h6⟩]at hT;rw[hT]at hE;dsimp only at hE;refine xS ?_;rw[DA n];exact a62
       ·rw[aj (by rintro⟨_,hh⟩;exact h6 hh)]at hT;exact bJ5
      ·rw[aj (by rintro⟨hh,_⟩;exact h5 hh)]at hT;exact bJ5
  ·obtain rfl:f=0:=bw;rw[zq]at hE;refine xS ?_;exact a62
instance a65(c:ae):FJ be 322 [.int .i64 c] [] (.bool (decide (1<=c)&&decide (c<=3))):=⟨λG=>by
 refine dH U λb O hb hG=>?_;refine xT 5 ?_ ?_<;>intro h
 ·exact VD
 ·refine xS ?_;exact cT hb (.tmps U) ⟨by grind [mv],U⟩⟩
theorem TT(hs:s.length<=1000000000000):TR be G 370 #[bn s] [] (dX (bn (s++jl))):=by
 refine dH U λb O hb hG=>?_;exact xR
def gU(c:ab)(n:av):Bs×ae:=if 1<=c/\c<=3/\n≠0 then(jk c n,0)else([],60)
theorem AY(c:ab)(n:av):TR be GG 217 #[.int .i64 c,.int .u32 n.toNat] [] (dX (.tuple #[bn (gU c n).1,.int .i64 (gU c n).2])):=by
 refine bZ U λb O hb hG=>?_;have bad:∀{N vs k H},¬(1<=c/\c<=3/\n≠0)->lk vs 4=aN (bn [])->lk vs 5=aN (.int .i64 60)->X be b O aO (.it (.code .ret::k)) ⟨N,vs,[]⟩ H (dX (.tuple #[bn (gU c n).1,.int .i64 (gU c n).2])):=by
  intro N vs k H he h1 h2;exact cT hb (.tmp h1 (.tmp h2 .nil)) ⟨by unfold gU;rw[aj he];rfl,U⟩
 refine xT 9 ?_ ?_<;>intro h
 ·refine xS ?_;exact bad bQ U U
 ·have h:1<=c/\c<=3:=bQ;refine xB ?_ ?_<;>intro h2
  ·have h2:n=0:=by apply fk.1;grind
   refine xS ?_;exact bad bQ U U
  ·have h2:n≠0:=by rintro rfl;simp at h2
   refine xJ (AV c h n) ?_;exact cT hb (.tmps U) ⟨by unfold gU;rw[ao ⟨h.1,h.2,h2⟩];rfl,U⟩
def gp(name:Bs):Bs×ai:=if(cR name).1=1 then(jk 2 (cR name).2,aP)else if(cR name).1=2 then(jk 1 (cR name).2,aP)else([],aQ)
theorem xY(hs:name.length<=1000000000000):TR be GG 172 #[bn name] [] (dX (.tuple #[bn (gp name).1,.bool (gp name).2])):=by
 refine dH U λb O hb hG=>?_;refine xJ (n4 name hs) ?_;unfold gp;generalize cR name=q;obtain⟨c,n⟩:=q;dsimp only;refine xB ?_ ?_<;>intro h1
 ·rw[ao bQ];refine xJ (AV 2 eK n) ?_;exact xR
 ·rw[aj bQ];refine xB ?_ ?_<;>intro h2
  ·rw[ao bQ];refine xJ (AV 1 eK n) ?_;exact xR
  ·rw[aj bQ];exact xR
def kG(c:ab)(l:Y Bs):Y av:=
 l.filterMap λs=>let p:=cR (kP s jl).1
  if(1<=p.1/\p.1<=3)/\(decide (p.1=3)=decide (c=3))then aN p.2 else aO
def Gi(ts:Y av):ab->av->av
 |0,n=>n
 |f+1,n=>if n∈ts then Gi ts f (n+1)else n
def im(c:ab)(l:Y Bs):av×ae:=if 1<=c/\c<=3 then(Gi (kG c l) (l.length+1) 1,0)else(0,60)
theorem oC{K:Type}[aG K](M:Y (K×aR))(x y:K)(v:aR):gM (iT M x v) y=if y=x then aN v else gM M y:=by
 unfold iT gM;cases h:M.findIdx? (·.1=x)with
 |none=>
  grind
 |some i=>
  simp only
  obtain⟨hi,hx,vz⟩:=cA.1 h
  simp only[decide_eq_true_eq]at hx vz
  have key:∀(M:Y (K×aR)) (i:ab) (hi:i<M.length),M[i].1=x->(∀j (UO:j<i),¬(M[j]' bw).1=x)->((M.set i (x,v)).find? (·.1=y)).map (·.2)=if y=x then aN v else(M.find? (·.1=y)).map (·.2):=by
   intro M;induction M with
   |nil=>grind
   |cons p r ih=>
    intro i hi h1 h2;cases i with
    |zero=>
     grind
    |succ i=>
     have hp:¬p.1=x:=h2 0 bw
     grind
  grind
instance:ze be 3 (.int .i64 0):=⟨by kernel_rfl⟩
abbrev VE(x:av):aR:=.int .u32 x.toNat
theorem Cr:Keyed be 139 VE:=UT (kk:=.u32) (λx:av=>(x.toNat:ae)) (λx y h=>fk.1 bw)
theorem Im{ts:Y av}(h:n∈ts)(hn:n.toNat<4294967295):(ts.filter λx=>decide ((n+1).toNat<=x.toNat)).length<(ts.filter λx=>decide (n.toNat<=x.toNat)).length:=by
 have h1:(n+1).toNat=n.toNat+1:=by
  grind [UInt32.toNat_add]
 rw[h1];have h2:(ts.filter λx=>decide (n.toNat+1<=x.toNat))=(ts.filter λx=>decide (n.toNat<=x.toNat)).filter λx=>decide (n.toNat+1<=x.toNat):=by
  rw[List.filter_filter]
  grind
 rw[h2];refine List.length_filter_lt_length_iff_exists.2 ⟨n,eM.2 ⟨h,by simp⟩,by simp⟩
theorem VF{name:Bs}{c:ab}(h:wG name c=aN n):n≠0:=by
 unfold wG at h;split at h
 ·split at h
  ·rename_i m hm;split at h
   ·rename_i h2;cases h;have h3:=NL hm;intro h4;have h5:(iN m).toNat=m:=by grind [UInt32.toNat_ofNat']
    simp_all
   ·cases h
  ·cases h
 ·cases h
theorem NM(h:1<=(cR name).1/\(cR name).1<=3):(cR name).2≠0:=by
 grind [cR,VF]
theorem NN(c:ab)(l:Y Bs):(0:av)∉kG c l:=by
 grind [kG,NM]
theorem Gj(c:ab)(a:ah aX)(n cp:ab)(l:Y Bs)(hn:l.length=n)(hs:n<=1000000000000)(hb:∀s∈l,s.length<=1000000000000):
 TR be GG 308 #[.int .i64 c,.slice a n cp] [dp (cy λs:Bs=>[bn s]) 1 a l] (dX (.tuple #[.int .u32 (im c l).1.toNat,.int .i64 (im c l).2])):=by
 refine bZ U λb O nA hG=>?_
 unfold im
 refine yB (¬(1<=c/\c<=3)) (1<=c/\c<=3) ?_ ?_<;>intro h1
 ·rw[aj h1];refine xS ?_;exact X.ret nA (.tmps U) ⟨_,⟨U,U⟩,bS.nil _⟩
 ·rw[ao h1];refine xS ?_;refine sP VE U U λM=>xS ?_;refine fR [0,6,16,17] [0] (ι:={p:ab×Y (av×aR) // p.1<=n/\∀x,(gM p.2 x).getD (.int .i64 0)=.int .i64 ((kG c (l.take p.1)).count x)}) (λp q_=>(18,.int .i64 p.1.1)::q_) (λp q_=>mp VE M p.1.2::q_) (λp=>n - p.1.1) ⟨(0,[]),bp _,λx=>rfl⟩ ?_;rintro⟨⟨i,Q⟩,hi,hQ⟩ ih;dsimp only at hi hQ ih ⊢;refine yB (i<l.length) (i=n) ?_ ?_<;>intro gj
  ·have xz:kG c (l.take (i+1))=kG c (l.take i)++kG c [l[i]]:=by
    rw[show l.take (i+1)=l.take i++[l[i]]from by simp]
    grind [kG]
   have yN:(kG c (l.take i)).length<=n:=by
    grind [kG]
   have qN:=hb _ (bE gj);refine xS ?_;refine dJ U U U U U gj hn λbl o=>?_;generalize l[i]=s at*;refine xJ (aC1 GG s jl qN) ?_;have hsl2:=Gh s jl;refine xJ (n4 (kP s jl).1 bw) ?_;have ht1:kG c [s]=if(1<=(cR (kP s jl).1).1/\(cR (kP s jl).1).1<=3)/\(decide ((cR (kP s jl).1).1=3)=decide (c=3))then[(cR (kP s jl).1).2]else[]:=by
    grind [kG]
   generalize cR (kP s jl).1=q at*;obtain⟨d,m⟩:=q;dsimp only at ht1 ⊢;have no:¬((1<=d/\d<=3)/\(decide (d=3)=decide (c=3)))->∀x,(gM Q x).getD (.int .i64 0)=.int .i64 ((kG c (l.take (i+1))).count x):=by
    grind
   refine yT 30 (1<=d/\d<=3) (¬(1<=d/\d<=3)) ?_ ?_<;>intro h3
   ·refine xS ?_;refine X2 U U U U  ?_;refine xB ?_ ?_<;>intro h4
    ·have h4:decide (d=3)=decide (c=3):=by
      grind
     rw[ao ⟨h3,h4⟩]at ht1
     have hcnt:((kG c (l.take i)).count m)<=n:=bo List.count_le_length yN
     refine xS ?_
     refine sQ m Cr U U U U (λw _=>ze.run ax w) ?_
     rw[hQ m]
     refine xS ?_
     refine rM m Cr U U U U (xS ?_)
     refine X.less (ih ⟨(i+1,iT Q m (.int .i64 (((kG c (l.take i)).count m:ab)+1:ae))),by omega,λx=>?_⟩ oQ) (MN U U U U (dI U dW)) bA
     dsimp only
     rw[oC,xz,ht1,List.count_append]
     grind
    ·have h4:¬decide (d=3)=decide (c=3):=by
      grind
     refine xS ?_;exact X.less (ih ⟨(i+1,Q),by omega,no bQ⟩ bQ) (MN U U U U (dI U dW)) bA
   ·refine xS ?_;exact X.less (ih ⟨(i+1,Q),by omega,no bw⟩ bQ) (MN U U U U (dI U dW)) bA
  ·subst gj
   rw[bI bw]at hQ
   have hlen:(kG c l).length<=i:=by
    grind [kG]
   have hz:=NN c l
   rw[hn]
   generalize kG c l=ts at*
   obtain⟨R0,hR0⟩:∃R0,R0=Gi ts (i+1) 1:=⟨_,U⟩
   rw[<-hR0]
   refine xS ?_
   refine X.loop (ι:={p:ab×av // ((1<=p.2.toNat/\(ts.filter λx=>decide (p.2.toNat<=x.toNat)).length<p.1)\/(p.2=0/\0<p.1))/\R0=Gi ts p.1 p.2}) (λp=>([(6,.map (aN M)),(11,.int .u32 p.1.2.toNat)],[mp VE M Q])) (λp=>p.1.1) ⟨(i+1,1),.inl ⟨(show 1<=(1:av).toNat by decide),?_⟩,hR0⟩ (Sub.of U) bA ?_
   ·grind
   rintro⟨⟨f,x⟩,hx,hE⟩ ih
   dsimp only at hx hE ih ⊢
   obtain⟨f,rfl⟩:∃q,f=q+1:=⟨f - 1,by omega⟩
   rw[Gi]at hE
   refine xS ?_
   refine sQ x Cr U U U U (λw _=>ze.run ax w) ?_
   rw[hQ x]
   refine xB ?_ ?_<;>intro h3
   ·have h3:x∈ts:=by
     grind
    rw[ao h3]at hE
    have hx0:x≠0:=bQ
    obtain⟨jT,hx3⟩:1<=x.toNat/\(ts.filter λy=>decide (x.toNat<=y.toNat)).length<f+1:=by
     grind
    have hw32:fi.wrap ((x.toNat:ae)+1)=((x+1).toNat:ae):=by
     grind [UInt32.toNat_add,jm,jX,iM]
    refine xS ?_
    refine X.less (ih ⟨(f,x+1),?_,hE⟩ oQ) (s2_ U (dI U (by rw[hw32]))) bA
    dsimp only
    have B6:0<(ts.filter λy=>decide (x.toNat<=y.toNat)).length:=List.length_pos_of_mem (eM.2 ⟨h3,by simp⟩)
    by_cases hmx:x.toNat<4294967295
    ·grind [Im,UInt32.toNat_add]
    ·have hx':x+1=0:=by
      apply fk.1;rw[UInt32.toNat_add];have h1':(1:av).toNat=1:=U;have h0':(0:av).toNat=0:=U;have:=x.toNat_lt;omega
     grind
   ·have h3:x∉ts:=by
     grind
    rw[aj h3]at hE;refine xS ?_;exact X.ret nA (.tmps U) ⟨_,⟨by rw[hE];rfl,U⟩,bS.nil _⟩
instance:CX be 443 Extern.BytealgCompare.compare:=⟨λargs w=>run_callFunc_extern (fn:=Tryz.f443) U U U U U args w⟩
theorem VG(x y:Bs):TR be G 365 #[bn x,bn y] [] (dX (.int .i64 (dY x y))):=by
 refine bZ U λb O hb hG=>xS ?_;refine Fa U U U (λw hs=>Lib.run_compareString ⟨x.toArray⟩ ⟨y.toArray⟩ w)  ?_;exact xR
instance bA3(x y:Bs):FJ be 263 [bn x,bn y] [] (.int .i64 (dY x y)):=⟨λG=>by
 refine bZ U λb O hb hG=>?_;refine xJ (VG G x y) ?_;exact cT hb (.tmps U) ⟨U,U⟩⟩
def cfN(x y:Eb):ae:=if x.no≠y.no then(x.no.toNat:ae) - y.no.toNat else dY x.jE.name y.jE.name
theorem bs4(x y:WB Eb):TR be G 262 #[.agg (mD x).toArray,.agg (mD y).toArray] [] (dX (.int .i64 (cfN x.1 y.1))):=by
 refine bZ U λb O hb hG=>?_;obtain⟨⟨xf,xn⟩,xa,xc⟩:=x;obtain⟨⟨yf,yn⟩,ya,yc⟩:=y;have h1:=xn.toNat_lt;have h2:=yn.toNat_lt;refine xP ?_;intro b2;refine xP ?_;intro b3;refine xB ?_ ?_<;>intro h
 ·have mf:xn≠yn:=by
   grind
  have e1:eu.wrap (xn.toNat:ae)=xn.toNat:=bs5;have e2:eu.wrap (yn.toNat:ae)=yn.toNat:=bs5;refine xS ?_;rw[e1];refine xS ?_;rw[e2];refine xS ?_;exact cT hb (.tmps U) ⟨by rw[cfN,ao mf];rfl,U⟩
 ·have heq:xn=yn:=by
   grind [fk]
  subst heq;refine xS ?_;exact cT hb (.tmps U) ⟨by rw[cfN,aj dW];rfl,U⟩
def nQ(c:ae)(q:Y (WB ca)):Y (WB Eb):=q.filterMap λx=>if((cR x.1.name).1:ae)=c then aN (⟨x.1,(cR x.1.name).2⟩,x.2)else aO
def nP(c:ae)(l:Y ca):Y Eb:=l.filterMap λx=>if((cR x.name).1:ae)=c then aN ⟨x,(cR x.name).2⟩else aO
theorem ab9(c:ae):∀q:Y (WB ca),(nQ c q).map (·.1)=nP c (q.map (·.1))
 |[]=>rfl
 |x::q=>by
  have ih:=ab9 c q;unfold nQ nP at*;rw[bN,fZ,fZ,<-ih];split
  ·rename_i h;split at h
   ·cases h
   ·rename_i h2;rw[aj h2]
  ·rename_i y h;split at h
   ·rename_i h2;cases h;rw[ao h2];rfl
   ·cases h
theorem aE9(c:ae)(q:Y (WB ca))(i:ab)(h:i<q.length):nQ c (q.take (i+1))=nQ c (q.take i)++(if((cR q[i].1.name).1:ae)=c then[(⟨q[i].1,(cR q[i].1.name).2⟩,q[i].2)]else[]):=by
 grind [cg,nQ]
theorem ac0(c:ae)(q:Y (WB ca)):(nQ c q).length<=q.length:=List.length_filterMap_le _ _
def mZ(c:ae)(q:Y (WB ca)):Y (WB Eb):=lE (λx y=>decide (cfN x.1 y.1<0)) (nQ c q)
def yC(c:ae)(l:Y ca):Y Eb:=lE (λx y=>decide (cfN x y<0)) (nP c l)
theorem x7(c:ae)(q:Y (WB ca)):(mZ c q).map (·.1)=yC c (q.map (·.1)):=by
 grind [mZ,yC,Gb,ab9]
theorem pJ{c:ae}{q:Y (WB ca)}{x:WB Eb}(h:x∈mZ c q):(x.1.jE,x.2)∈q:=by
 have h1:=(jV _ _).mem_iff.1 h
 obtain⟨y,hy,h2⟩:=List.mem_filterMap.1 h1
 grind
theorem K7(c:ae)(a:ah aX)(n cp:ab)(q:Y (WB ca))(hn:q.length=n)(hs:n<=1000000000000)(hb:∀x∈q,x.1.name.length<=1000000000000):
 TR be GG 168 #[.slice a n cp,.int .i64 c] [dp (cy bY) 2 a q] (dC (UZ mD 262 3 (mZ c q))):=by
 refine bZ U λb O VH hG=>xS ?_
 refine X.dE (fh 262 3 _) ?_
 refine fR [1,10] [0] (ι:={z:ab×ah aX×ab // z.1<=n}) (λz q_=>(5,.slice z.1.2.1 (nQ c (q.take z.1.1)).length z.1.2.2)::(11,bR n)::(12,bR z.1.1)::q_) (λz q_=>own 262 3 z.1.2.1 (nQ c (q.take z.1.1)).length z.1.2.2 ((nQ c (q.take z.1.1)).flatMap mD)::q_) (λz=>n - z.1.1) ⟨(0,aO,0),bp _⟩ ?_
 rintro⟨⟨i,a5,c5⟩,hi⟩ ih
 dsimp only at hi ⊢
 have hl:(nQ c (q.take i)).length<=n:=by
  grind [ac0]
 refine xB ?_ ?_<;>intro h
 ·have hi:i<q.length:=by grind
  have kl:=aE9 c q i hi
  have hbx:=hb _ (bE hi)
  generalize hr:nQ c (q.take i)=r at*
  refine xS ?_
  refine dJ U U U U U hi hn λbl o=>?_
  generalize q[i]=x at*
  refine xS ?_
  refine eT U U U U  ?_
  refine xA ?_
  intro b7
  refine xJ (n4 x.1.name hbx) ?_
  refine yB (((cR x.1.name).1:ae)=c) (¬((cR x.1.name).1:ae)=c) ?_ ?_<;>intro h2
  ·rw[ao h2]at kl
   refine xZ ?_
   intro b9
   refine fH (((⟨x.1,(cR x.1.name).2⟩,x.2):WB Eb)) U U U U (by omega) U (by rfl) (by rfl) (by rfl) (by rfl) (by rfl) (by omega) λa8 c8=>xS ?_
   refine X.less (ih ⟨(i+1,a8,c8),by omega⟩ (by grind)) ?_ ?_
   ·dsimp only
    rw[kl]
    exact(MN U U U U (dI U (by simp[bR])))
   ·dsimp only
    rw[kl]
    exact bA
  ·rw[aj h2,bj]at kl
   refine xS ?_
   refine X.less (ih ⟨(i+1,a5,c5),by omega⟩ (by grind)) ?_ ?_
   ·dsimp only
    rw[kl]
    exact(MN U U U U (dI U (by simp[bR])))
   ·dsimp only
    rw[kl]
    exact bA
 ·have gj:i=n:=by grind
  subst gj
  rw[bI (by omega)]at hl ⊢
  refine xE (SN.ua GG (λx y=>cfN x.1 y.1) 262 (λx y=>bs4 GG x y) a5 _ c5 (nQ c q) U (by omega)) ?_
  exact X.ret VH (.tmps U) ⟨_,⟨a5,c5,by grind [mv,mZ,kX],U⟩,by rw[mZ,kX];exact bA⟩
end
section
variable(G:dA)(a:ah aX)(n c i:ab)(I:ae)(q:Y (WB ca))
instance:XD be 492 6 491:=⟨Tryz.underlying492⟩
structure fY where
 op:ae
 name:Bs
 vG:Bs
 data:Bs
 n:ae
deriving DecidableEq
abbrev eG(x:WB fY):Y aR:=[.int .i64 x.1.op,bn x.1.name,bn x.1.vG,.slice x.2.1 x.1.data.length x.2.2,.int .i64 x.1.n]
def Q6(r:ah (Y ca))(v:aR)(B:Y bG):Prop:=match r with
 |none=>∃u,v=.tuple #[u,.bool aQ]/\B=[]
 |some l=>∃a c,∃q:Y (WB ca),q.map (·.1)=l/\v=.tuple #[.slice a q.length c,.bool aP]/\B=[own 70 2 a q.length c (q.flatMap bY),eQ ca.data q]
def tE(l:Y ca)(i:ab):ca:=l.getD i ⟨[],[]⟩
theorem Gk(i:ab)(h:i<q.length):tE (q.map (·.1)) i=q[i].1:=by
 grind [tE]
def zr(l:Y ca)(i:ab)(b50:Bs):Y ca:=
 if 0<=jI l b50 then(l.set i ⟨b50,(tE l i).data⟩).eraseIdx (jI l b50).toNat else l.set i ⟨b50,(tE l i).data⟩
def wH(op:ae)(l:Y ca)(i:ab)(s:fY):ah (Y ca):=
 if op=1 then aN (l.eraseIdx i)else if op=2 then aN (l++[⟨s.name,s.data⟩])else if op=3 then aN l
 else if op=4 then(if eO s.vG=aQ then aO else if s.vG=s.name then aN l else aN (zr l i s.vG))
 else if s.n<0\/s.n>(tE l i).data.length then aO else aN (l.set i ⟨(tE l i).name,(tE l i).data.take s.n.toNat⟩)
theorem Cs{α:Type}(p:α->ai):∀(k:ab) (l:Y α),0<=dM p k l->(dM p k l).toNat<k+l.length/\k<=(dM p k l).toNat
 |k,[],h=>by grind [dM]
 |k,x::r,h=>by
  unfold dM at h ⊢
  split at h
  ·grind
  ·rename_i h1
   rw[aj h1]
   have:=Cs p (k+1) r h
   grind
theorem sb{l:Y ca}{nm:Bs}(h:0<=jI l nm):(jI l nm).toNat<l.length:=by
 have:=Cs _ 0 l h;grind [jI]
theorem aF0(hI:I=i)(q:Y (WB ca))(hn:q.length=n)(hi:i<n)(hs:n<=1000000000000)(st:WB fY):
 TR be G 444 #[.slice a n c,.int .i64 I,.agg (eG st).toArray] [own 70 2 a n c (q.flatMap bY),eQ ca.data q] (dC (Q6 (wH 1 (q.map (·.1)) i st.1))):=by
 subst hI
 refine jy U λb O hb hG=>?_
 refine xP ?_
 intro b5
 refine cM hG (TQ G a n c i _ _ U bw q hn hi hs) U U U bS.es ?_
 rintro v B ⟨a2,c2,rfl,rfl⟩
 refine xD ?_
 refine qW (data:=ca.data) q (q.eraseIdx i) (λx hx=>List.mem_of_mem_eraseIdx hx) ?_
 exact cT hb (.tmps U) ⟨a2,c2,q.eraseIdx i,map_eraseIdx _ _ _,U,U⟩
theorem aF1(hn:q.length=n)(hs:n<=1000000000000)(st:WB fY):
 TR be G 446 #[.slice a n c,.int .i64 I,.agg (eG st).toArray] [own 70 2 a n c (q.flatMap bY),eQ ca.data q,eQ fY.data [st]] (dC (Q6 (wH 2 (q.map (·.1)) i st.1))):=by
 subst hn
 refine jy U λb O hb hG=>?_
 refine Db (data:=fY.data) ca.data [st] [((⟨st.1.name,st.1.data⟩,st.2):WB ca)] (λy hy=>?_) ?_
 ·obtain rfl:=cK.1 hy;exact⟨st,cK.2 U,st.1.data.length,U,by rw[bV]⟩
 refine Ak (data:=ca.data) q [((⟨st.1.name,st.1.data⟩,st.2):WB ca)]  ?_
 refine xP ?_
 intro b5
 refine xZ ?_
 intro b7
 refine fH (((⟨st.1.name,st.1.data⟩,st.2):WB ca)) U U U U bw U cE cE cE cE cE bw λa8 c8=>xS ?_
 exact cT hb (.tmps U) ⟨a8,c8,q++[(⟨st.1.name,st.1.data⟩,st.2)],by simp,U,U⟩
theorem aF2(hn:q.length=n)(st:WB fY):
 TR be G 447 #[.slice a n c,.int .i64 I,.agg (eG st).toArray] [own 70 2 a n c (q.flatMap bY),eQ ca.data q] (dC (Q6 (wH 3 (q.map (·.1)) i st.1))):=by
 subst hn
 refine jy U λb O hb hG=>?_
 refine xP ?_
 intro b5
 exact cT hb (.tmps U) ⟨a,c,q,U,U,U⟩
theorem aF3(hI:I=i)(q:Y (WB ca))(hn:q.length=n)(hi:i<n)(hs:n<=1000000000000)(st:WB fY):
 TR be G 448 #[.slice a n c,.int .i64 I,.agg (eG st).toArray] [own 70 2 a n c (q.flatMap bY),eQ ca.data q] (dC (Q6 (wH 4 (q.map (·.1)) i st.1))):=by
 subst hI hn
 refine jy U λb O hb hG=>?_
 have VI:wH 4 (q.map (·.1)) i st.1=(if eO st.1.vG=aQ then aO else if st.1.vG=st.1.name then aN (q.map (·.1))else aN (zr (q.map (·.1)) i st.1.vG)):=U
 rw[VI]
 refine xP ?_
 intro b5
 refine yT 13 (eO st.1.vG=aQ) (eO st.1.vG=aP) ?_ ?_<;>intro h
 ·rw[ao h];refine xS ?_;exact cT hb (.tmps U) ⟨.slice a q.length c,by grind [mv],U⟩
 ·rw[aj (by simp[h])];refine yB (st.1.vG=st.1.name) (¬st.1.vG=st.1.name) ?_ ?_<;>intro h2
  ·rw[ao h2];refine xS ?_;exact cT hb (.tmps U) ⟨a,c,q,U,by grind [mv],U⟩
  ·rw[aj h2];refine gZ a bw λg hg=>?_;subst hg;refine xS ?_;refine cM hG (nG (e:=70) (c:=c) (xX G _ _ c q st.1.vG U bw) (λv B hq=>by obtain⟨_,rfl⟩:=hq;exact ax) U (λ_=>rfl)) U U U bS.es ?_;rintro v B ⟨B',⟨rfl,rfl⟩,rfl⟩;dsimp only[bh,bk,bj];have vz:=@sb (q.map (·.1)) st.1.vG;rw[bF]at vz;refine xS ?_;refine eA U U U U U hi (xS ?_);refine E3 (cC:=bY) (l:=q) i 0 ((⟨st.1.vG,q[i].1.data⟩,q[i].2):WB ca) (λ_=>rfl) U U U U (λ_=>rfl) bw hi eK U U ?_;have KC:(q.set i (⟨st.1.vG,q[i].1.data⟩,q[i].2)).map (·.1)=(q.map (·.1)).set i ⟨st.1.vG,(tE (q.map (·.1)) i).data⟩:=by grind [fL,Gk]
   refine Db (data:=ca.data) ca.data q (q.set i (⟨st.1.vG,q[i].1.data⟩,q[i].2)) (λy hy=>?_) ?_
   ·rcases List.mem_or_eq_of_mem_set hy with h5|rfl
    ·exact a71
    ·exact⟨q[i],bE hi,q[i].1.data.length,U,by rw[bV]⟩
   have qx:(q.set i (⟨st.1.vG,q[i].1.data⟩,q[i].2)).length=q.length:=fJ;generalize q.set i (⟨st.1.vG,q[i].1.data⟩,q[i].2)=q2 at*;refine yB (0<=jI (q.map (·.1)) st.1.vG) (¬0<=jI (q.map (·.1)) st.1.vG) ?_ ?_<;>intro h3
   ·have hk:=vz h3;refine xS ?_;refine cM hG (TQ G _ _ c (jI (q.map (·.1)) st.1.vG).toNat _ _ bw bw q2 qx hk hs) U U U bS.es ?_;rintro v B ⟨a2,c2,rfl,rfl⟩;refine xD ?_;refine qW (data:=ca.data) q2 (q2.eraseIdx (jI (q.map (·.1)) st.1.vG).toNat) (λx hx=>List.mem_of_mem_eraseIdx hx) ?_;exact cT hb (.tmps U) ⟨a2,c2,_,by grind [map_eraseIdx,zr],U,U⟩
   ·refine xS ?_;rw[<-qx];exact cT hb (.tmps U) ⟨_,c,q2,by grind [zr],U,U⟩
theorem aF4(hI:I=i)(q:Y (WB ca))(hn:q.length=n)(hi:i<n)(st:WB fY):
 TR be G 449 #[.slice a n c,.int .i64 I,.agg (eG st).toArray] [own 70 2 a n c (q.flatMap bY),eQ ca.data q] (dC (Q6 (wH 5 (q.map (·.1)) i st.1))):=by
 subst hI hn
 refine jy U λb O hb hG=>?_
 have VI:wH 5 (q.map (·.1)) i st.1=(if st.1.n<0\/st.1.n>(q[i].1.data.length:ae)then aO else aN ((q.map (·.1)).set i ⟨q[i].1.name,q[i].1.data.take st.1.n.toNat⟩)):=by rw[<-Gk q i hi];rfl
 rw[VI]
 refine gZ a bw λg hg=>?_
 subst hg
 refine nH (data:=ca.data) q q[i] (bE hi) λFu Qq=>?_
 obtain⟨⟨so,sn,st2,sd,sN⟩,sa,sc⟩:=st
 dsimp only at*
 refine xP ?_
 intro b5
 by_cases hneg:sN<0
 ·rw[ao (.inl hneg)];refine fU 14 [0] ?_;apply dB [0,1,2,3,4,5,6,7,8,9,10,11,12,13] U U U
  ·intro p hp;refine xS ?_;refine bD 10 aP U bQ ?_;refine bD 11 aP U bQ (xS ?_);exact hp
  ·rfl
  ·rfl
  exact Jg
 ·refine fU 14 [2,0] ?_;apply dB [0,1,2,3,4,5,6,7,8,9,10,11,12,13] U U U
  ·intro p hp;refine xS ?_;refine bD 11 aQ U bQ (xS ?_);refine eA U U U U U hi (xS ?_);refine tg (cC:=bY) (l:=q) i 1 U U U U (λ_=>rfl) bw hi U (xS ?_);exact hp
  ·rfl
  ·rfl
  refine yB (sN>(q[i].1.data.length:ae)) (¬sN>(q[i].1.data.length:ae)) ?_ ?_<;>intro h2
  ·rw[ao (.inr h2)];exact Jg
  ·rw[aj bw];refine xS ?_;refine fG (sG [0,1,2,3,4,5,6,7,8,9]) [own 70 2 (aN ⟨g,0,aO⟩) q.length c (q.flatMap bY),bx b5 266 [.int .i64 so,bn sn,bn st2,.slice sa sd.length sc,.int .i64 sN]] U ?_;apply dB [0,1,2,3,4,5,6,7,8,9] U U U
   ·intro p hp;refine xS ?_;refine eA U U U U U hi (xS ?_);refine tg (cC:=bY) (l:=q) i 1 U U U U (λ_=>rfl) bw hi U (xS ?_);refine EX (l:=0) (h:=sN.toNat) U U U Bd.no (Bd.at U bw) bw bw ?_;rw[br1];refine xS ?_;exact hp
   ·rfl
   ·rfl
   refine xS ?_;refine eA U U U U U hi (xS ?_);have vz:(q[i].1.data.take sN.toNat).length=sN.toNat - 0:=bQ;refine E3 (cC:=bY) (l:=q) i 1 ((⟨q[i].1.name,q[i].1.data.take sN.toNat⟩,q[i].2):WB ca) (λ_=>by grind) U U U U (λ_=>rfl) bw hi eK U U ?_;have KC:(q.set i (⟨q[i].1.name,q[i].1.data.take sN.toNat⟩,q[i].2)).map (·.1)=(q.map (·.1)).set i ⟨q[i].1.name,q[i].1.data.take sN.toNat⟩:=by rw[fL]
   refine Db (data:=ca.data) ca.data q (q.set i (⟨q[i].1.name,q[i].1.data.take sN.toNat⟩,q[i].2)) (λy hy=>?_) ?_
   ·rcases List.mem_or_eq_of_mem_set hy with h5|rfl
    ·exact a71
    grind
   have qx:(q.set i (⟨q[i].1.name,q[i].1.data.take sN.toNat⟩,q[i].2)).length=q.length:=fJ;generalize q.set i (⟨q[i].1.name,q[i].1.data.take sN.toNat⟩,q[i].2)=q2 at*;refine xS ?_;rw[<-qx];exact cT hb (.tmps U) ⟨_,c,q2,KC,U,U⟩
abbrev zY(f:ab):aR:=.func (.func f) #[] #[]
instance bS4:FJ be 366 [] [] (.agg #[.bool aQ,.nilFunc,.bool aP,zY 444,.bool aQ,zY 446,.bool aP,zY 447,.bool aP,zY 448,.bool aP,zY 449]):=⟨λG=>by
 refine SV λb O hb hG=>?_;refine xA ?_;intro b0;refine XO U U cE cE (xS ?_);exact cT hb (.jf U cE .nil) ⟨U,U⟩⟩
def ke(l:Y ca)(s:fY):ah (Y ca):=
 if s.op<1\/s.op>5\/eO s.name=aQ then aO
 else if(s.op=2↔0<=jI l s.name)then aO
 else wH s.op l (jI l s.name).toNat s
theorem aF5(so:ae)(fb:ab)(h:(so=1/\fb=444)\/(so=2/\fb=446)\/(so=3/\fb=447)\/(so=4/\fb=448)\/(so=5/\fb=449))(a:ah aX)(n c i:ab)(I:ae)(hI:so≠2->I=i/\i<n)(q:Y (WB ca))(hn:q.length=n)(hs:n<=1000000000000)(st:WB fY):
 ∃_:CF be fb,TR be G fb #[.slice a n c,.int .i64 I,.agg (eG st).toArray] [own 70 2 a n c (q.flatMap bY),eQ ca.data q,eQ fY.data [st]] (dC (Q6 (wH so (q.map (·.1)) i st.1))):=by
 have Cl:bS [own 70 2 a n c (q.flatMap bY),eQ ca.data q,eQ fY.data [st]] [own 70 2 a n c (q.flatMap bY),eQ ca.data q]:=bA
 rcases h with⟨rfl,rfl⟩|⟨rfl,rfl⟩|⟨rfl,rfl⟩|⟨rfl,rfl⟩|⟨rfl,rfl⟩
 ·obtain⟨h1,h2⟩:=hI eK;exact⟨ax,(aF0 G a n c i I h1 q hn h2 hs st).eY Cl λ_ B h=>⟨B,h,bS.refl _⟩⟩
 ·exact⟨ax,aF1 G a n c i I q hn hs st⟩
 ·exact⟨ax,(aF2 G a n c i I q hn st).eY Cl λ_ B h=>⟨B,h,bS.refl _⟩⟩
 ·obtain⟨h1,h2⟩:=hI eK;exact⟨ax,(aF3 G a n c i I h1 q hn h2 hs st).eY Cl λ_ B h=>⟨B,h,bS.refl _⟩⟩
 ·obtain⟨h1,h2⟩:=hI eK;exact⟨ax,(aF4 G a n c i I h1 q hn h2 st).eY Cl λ_ B h=>⟨B,h,bS.refl _⟩⟩
theorem Gl(hn:q.length=n)(hs:n<=1000000000000)(h0:a=aO->n=0/\c=0)(st:WB fY):
 TR be G 264 #[.slice a n c,.agg (eG st).toArray] [dp (cy bY) 2 a q,eQ ca.data q,eQ fY.data [st]] (dC (Q6 (ke (q.map (·.1)) st.1))):=by
 subst hn
 refine bZ U λb O hb hG=>?_
 have vz:=@sb (q.map (·.1)) st.1.name
 rw[bF]at vz
 obtain⟨⟨so,sn,st2,sd,sN⟩,sa,sc⟩:=st
 dsimp only at*
 have hd:ke (q.map (·.1)) ⟨so,sn,st2,sd,sN⟩=if so<1\/so>5\/eO sn=aQ then aO
  else if(so=2↔0<=jI (q.map (·.1)) sn)then aO else wH so (q.map (·.1)) (jI (q.map (·.1)) sn).toNat ⟨so,sn,st2,sd,sN⟩:=U
 refine xP ?_
 intro b3
 refine xJ (xX G a _ c q sn U bw) ?_
 generalize hK:jI (q.map (·.1)) sn=K at*
 refine yT 15 (so<1) (¬so<1) ?_ ?_<;>intro h1
 ·rw[hd,ao (.inl h1)];exact Jg
 ·refine yT 20 (so>5) (¬so>5) ?_ ?_<;>intro h2
  ·rw[hd,ao (.inr (.inl h2))];exact Jg
  ·refine yB (eO sn=aQ) (eO sn=aP) ?_ ?_<;>intro h3
   ·rw[hd,ao (.inr (.inr h3))];exact Jg
   ·rw[aj bQ]at hd
    rw[hd]
    clear hd
    refine xS ?_
    obtain⟨fb,th,hth,hfb⟩:∃(fb:ab) (th:ai),(th= !decide (so=2))/\((so=1/\fb=444)\/(so=2/\fb=446)\/(so=3/\fb=447)\/(so=4/\fb=448)\/(so=5/\fb=449)):=by
     grind
    refine tq [0,3] [] (ι:=ab) (λb7 q_=>(6,.int .i64 K)::(7,bu b7)::q_) (λb7 q_=>bx b7 491 [.bool th,zY fb]::q_) ?fin ?main
    case main=>
     intro KK dF;refine ph [1,2] [0] ?_;refine xL [1,2] ?_;have hix:∃j:ab,so=j/\j<6/\Mw (j*2) 2 [.bool aQ,.nilFunc,.bool aP,zY 444,.bool aQ,zY 446,.bool aP,zY 447,.bool aP,zY 448,.bool aP,zY 449]=aN [.bool th,zY fb]:=by
      subst hth;rcases hfb with⟨rfl,rfl⟩|⟨rfl,rfl⟩|⟨rfl,rfl⟩|⟨rfl,rfl⟩|⟨rfl,rfl⟩
      ·exact⟨1,U,by decide,U⟩
      ·exact⟨2,U,by decide,U⟩
      ·exact⟨3,U,by decide,U⟩
      ·exact⟨4,U,by decide,U⟩
      ·exact⟨5,U,by decide,U⟩
     obtain⟨j,hj1,hj2,hj3⟩:=hix;refine eN U U U U U ?_ ?_
     ·refine xS ?_;refine eN U U U U U ?_ ?_
      ·refine X9 U U U U hj1 hj2 hj3  ?_;refine xA ?_;intro b7;exact X.W (dF b7)
      exact a73
     exact a73
    case fin=>
     intro b7;refine xS ?_;refine bD6 U U U U  ?_;refine xB ?_ ?_<;>intro h4
     ·have h4:(so=2↔0<=K):=by
       grind
      rw[ao h4];exact Jg
     ·have h4:¬(so=2↔0<=K):=by
       grind
      rw[aj h4];refine xS ?_;refine ph [0,1,2,4,5] [0,1] ?_;refine xL [0,1,2,4,5] ?_;refine xS ?_;refine cP (VA G a _ c q U hs h0) ?_;rintro v B ⟨a2,c2,rfl,rfl⟩;refine xD ?_;obtain⟨uD,VI⟩:=aF5 G so fb hfb a2 _ c2 K.toNat K (by
       omega) q U hs ⟨⟨so,sn,st2,sd,sN⟩,sa,sc⟩
      dsimp only at VI;generalize wH so (q.map (·.1)) K.toNat ⟨so,sn,st2,sd,sN⟩=r at*;refine jd hG (fst:=[]) (cap:=[]) (us:=[.slice a2 q.length c2,.int .i64 K,.agg (eG ⟨⟨so,sn,st2,sd,sN⟩,sa,sc⟩).toArray]) VI U U U U bS.es ?_;intro v B hq;cases r with
      |none=>
       obtain⟨u,rfl,rfl⟩:=hq;refine xD ?_;refine eN U U U U U ?_ ?_;all_goals
        refine xS ?_
        exact cT hb (.tmps U) ⟨_,U,U⟩
      |some l=>
       obtain⟨a3,c3,q3,hq3,rfl,rfl⟩:=hq;refine xD ?_;refine eN U U U U U ?_ ?_;all_goals
        refine xS ?_
        exact cT hb (.tmps U) ⟨a3,c3,q3,hq3,U,U⟩
end
end Go.Proofs
namespace Go.Proofs
open Go.Shelf
set_option maxRecDepth 8000
def lA:Go.Shelf.Ren:=⟨fun|6=>452|15=>363|14=>486|28=>440|29=>357|20=>501|21=>502|22=>503|23=>504|24=>505|25=>506|26=>507|27=>508|46=>514|47=>480|48=>481|49=>515|50=>516|57=>518|n=>n,fun|22=>416|24=>153|25=>444|3=>3|39=>388|0=>0|53=>139|55=>87|4=>4|46=>552|45=>551|50=>556|5=>5|9=>9|66=>588|70=>425|76=>598|77=>44|n=>n,fun|n=>n⟩
theorem D3:Go.Proofs.SlLaysF0.n6 be lA:=by
 constructor
 case f6=>exact bears Tryz.func452
 case f14=>exact bears Tryz.func486
 case f20=>exact bears Tryz.func501
 case f21=>exact bears Tryz.func502
 case f22=>exact bears Tryz.func503
 case f23=>exact bears Tryz.func504
 case f24=>exact bears Tryz.func505
 case f25=>exact bears Tryz.func506
 case f26=>exact bears Tryz.func507
 case f27=>exact bears Tryz.func508
 case f46=>exact bears Tryz.func514
 case f49=>exact bears Tryz.func515
 case f50=>exact bears Tryz.func516
 case f57=>exact bears Tryz.func518
 all_goals first|kernel_rfl|(intros;kernel_rfl)|(constructor<;>first|kernel_rfl|(intros;kernel_rfl))
def lB:Go.Shelf.Ren:=⟨fun|6=>285|15=>363|14=>382|28=>440|29=>357|20=>454|21=>455|22=>456|23=>457|24=>458|25=>459|26=>460|27=>461|46=>487|47=>480|48=>481|49=>488|50=>489|57=>509|n=>n,fun|22=>67|24=>70|25=>420|3=>3|39=>388|0=>0|53=>139|55=>87|4=>4|46=>552|45=>551|50=>556|5=>5|9=>9|66=>588|70=>425|76=>598|77=>44|n=>n,fun|n=>n⟩
theorem DX:Go.Proofs.SlLaysF0.n6 be lB:=by
 constructor
 case f6=>exact bears Tryz.func285
 case f14=>exact bears Tryz.func382
 case f20=>exact bears Tryz.func454
 case f21=>exact bears Tryz.func455
 case f22=>exact bears Tryz.func456
 case f23=>exact bears Tryz.func457
 case f24=>exact bears Tryz.func458
 case f25=>exact bears Tryz.func459
 case f26=>exact bears Tryz.func460
 case f27=>exact bears Tryz.func461
 case f46=>exact bears Tryz.func487
 case f49=>exact bears Tryz.func488
 case f50=>exact bears Tryz.func489
 case f57=>exact bears Tryz.func509
 all_goals first|kernel_rfl|(intros;kernel_rfl)|(constructor<;>first|kernel_rfl|(intros;kernel_rfl))
end Go.Proofs
namespace Go.Proofs
open Go.Sl
set_option maxRecDepth 8000
section
variable{cc:ah (ar aW×Y aW)}{R:aZ->Y bG->Prop}{k:Bs}{α:Type}{E:Env}{b:bc}{O:de}{H F:Y bG}(K:ab)(G:dA)(D:ab)(a:ah aX)(f:ab)(cap:Y aR)(A:Y bG)(pok fok:Y Place->Prop)
theorem Io[CF be f](hit:Dq be G f cap A (λk:Place=>[Place.v k]) pok fok)(hl:∀p,pok p->p.length<=1000000000000):
 TR be G 485 #[.slice aO 0 0,.func (.func f) #[] cap.toArray] [dZ A] (dC λv B=>∃ys,fok ys/\∃a c,v=.slice a ys.length c/\B=[own 153 3 a ys.length c (ys.flatMap Place.cs),dZ A]):=by
 refine bZ U λb O hb hG=>xS ?_
 refine X.box U U U U λb2=>?_
 refine C7 Place.cs 153 3 b2 U (xS ?_)
 refine IK hG hb hit.dZ U (λpre=>[mS Place.cs 153 3 416 b2 pre]) [mS Place.cs 153 3 416 b2 []] U (λ_=>rfl) eK ?_ ?_
 ·intro b' β' l' r pre x hx mM BS hr;have tJ:=hl _ hx;rw[bK,List.length_singleton]at tJ;refine xA ?_;intro b5;refine qO mM hr (xS ?_);refine nK Place.cs 153 3 416 b2 λa6 c6=>?_;refine xZ ?_;intro b7;refine fH (x) U U U U bw U cE cE cE cE cE bw λa8 c8=>xS ?_;refine vk Place.cs 153 3 416 b2 (pre++[x]) U ?_;exact lT mM
 ·intro D ys AD;dsimp only[bh,bk,bj];refine nK Place.cs 153 3 416 b2 λa6 c6=>xS ?_;exact aV3
theorem NO[CF be f](hit:Dq be G f cap A (λk:Place=>[Place.v k]) pok fok)(hl:∀p,pok p->p.length<=1000000000000):
 TR be G 451 #[.func (.func f) #[] cap.toArray] [dZ A] (dC λv B=>∃ys,fok ys/\∃a c,v=.slice a ys.length c/\B=[own 153 3 a ys.length c (ys.flatMap Place.cs),dZ A]):=by
 refine dH U λb O hb hG=>xS ?_
 refine cP (Io G f cap A pok fok hit hl) ?_
 rintro v B ⟨ys,AD,a,c,rfl,rfl⟩
 refine xD ?_
 exact cT hb (.tmps U) ⟨ys,AD,a,c,U,U⟩
structure Seen where
 key:Bs
 fQ:az
 kind:ae
 place:Place
 open_:ai
 body:Bs
deriving DecidableEq
abbrev Seen.cs(s:Seen):Y aR:=[bn s.key,.int .u64 s.fQ.toNat,.int .i64 s.kind,.int .u32 s.place.sE.toNat,.int .i64 s.place.at_,.int .i64 s.place.len,.bool s.open_,bn s.body]
abbrev Seen.zero:Seen:=⟨[],0,0,⟨0,0,0⟩,aQ,[]⟩
def Ct(s:Seen):Bs:=([cV s.kind.toNat]++gn [s.fQ])++(if s.kind=1 then gn [jC s.key.length]else[])++s.key
theorem aF8(s:Seen)(hk:0<=s.kind)(hl:s.key.length<=1000000000000):TR be G 401 #[.agg s.cs.toArray] [] (dX (bn (Ct s))):=by
 refine dH U λb O hb hG=>?_;refine xP ?_;intro b1;have v9:=kS [s.fQ];have v10:=kS [jC s.key.length];simp only[bL,dU]at v9 v10;refine tq [1,2] [] (ι:=ah aX×ab) (λq q_=>(3,.slice q.1 ([cV s.kind.toNat]++gn [s.fQ]).length q.2)::q_) (λq q_=>own 5 1 q.1 ([cV s.kind.toNat]++gn [s.fQ]).length q.2 (([cV s.kind.toNat]++gn [s.fQ]).map gT)::q_) (λq=>?_) (λK fin=>?_)
 ·obtain⟨a,c⟩:=q;dsimp only;generalize hv9:[cV s.kind.toNat]++gn [s.fQ]=w9;have hw9:w9.length<=11:=bQ;have e0:Ct s=w9++(if s.kind=1 then gn [jC s.key.length]else[])++s.key:=by subst hv9;rfl
  refine yB (s.kind=1) (¬s.kind=1) ?_ ?_<;>intro h1
  ·rw[ao h1]at e0;refine xS ?_;rw[mq _ bw];refine xZ ?_;intro b20;refine jx b20 (λx=>[tT x]) [jC s.key.length] U (λ_=>rfl) ?_;refine cP (ow G _ 1 1 [jC s.key.length] U bw) ?_;rintro _ _ ⟨a20,c20,rfl,rfl⟩;refine xD ?_;refine jz a20 U λh20=>?_;generalize hv20:gn [jC s.key.length]=w20 at*;refine jA U U U U U bw λa30 c30=>xS ?_;refine jz a30 U λh30=>xS ?_;exact cT hb (.tmps U) ⟨by rw[e0];rfl,U⟩
  ·rw[aj h1,bj]at e0;refine xS ?_;refine jz a U λh30=>xS ?_;exact cT hb (.tmps U) ⟨by rw[e0];rfl,U⟩
 ·refine ph [0,1,2,4,5] [0] ?_;refine xL [0,1,2,4,5] ?_;rw[KU _ hk];refine eN U U U U U ?_ ?_
  ·refine xZ ?_;intro b7;refine xZ ?_;intro tu;exact bJ6
  ·refine xZ ?_;intro tu;refine eN U U U U U ?_ ?_
   ·refine xZ ?_;intro b7;exact bJ6
   ·refine jx tu (λx=>[tT x]) [s.fQ] U (λ_=>rfl) ?_;refine cP (ow G _ 1 1 [s.fQ] U bw) ?_;rintro _ _ ⟨Y5,c10,rfl,rfl⟩;refine xD ?_;refine xZ ?_;intro b7;exact bV8
def Cu(s:Seen)(body:Bs):ai:=(mB body (Ct s)).2&&decide ((mB body (Ct s)).1.length<=2048)&&(s.kind==1||(mB body (Ct s)).1==[])
theorem TU(s:Seen)(body:Bs)(hk:0<=s.kind)(hl:s.key.length<=1000000000000):TR be G 315 #[.agg s.cs.toArray,bn body] [] (dX (.bool (Cu s body))):=by
 refine bZ U λb O hb hG=>?_;refine xP ?_;intro b2;refine xJ (aF8 G s hk hl) ?_;unfold Cu;generalize Ct s=h at*;refine xS ?_;generalize mB body h=q at*;refine xT 15 ?_ ?_<;>intro h1
 ·refine xT 20 ?_ ?_<;>intro h2
  ·refine xT 24 ?_ ?_<;>intro h3
   ·exact a81
   ·exact a81
  ·have h2:¬q.1.length<=2048:=bQ;exact VD
 ·exact VD
def Seen.may(s:Seen):ai:=
 if s.key.length<1\/64<s.key.length\/s.fQ=0\/(s.kind≠1/\s.kind≠2)then aQ
 else if s.place.sE=0\/s.place.at_<0\/s.place.len<1 then aQ
 else if s.open_=aP then Cu s s.body else s.body==[]
theorem bs7(s:Seen):TR be G 212 #[.agg s.cs.toArray] [] (dX (.bool s.may)):=by
 refine dH U λb O hb hG=>?_;refine xP ?_;intro b1;refine xA ?_;intro b3;have bad:∀{N vs k H},s.may=aQ->lk vs 2=aN (.bool aQ)->X be b O aO (.it (.code .ret::k)) ⟨N,vs,[]⟩ H (dX (.bool s.may)):=by
  intro N vs k H he h1;exact cT hb (.tmp h1 .nil) ⟨by rw[he];rfl,U⟩
 have e1:¬(s.key.length<1\/64<s.key.length\/s.fQ=0\/(s.kind≠1/\s.kind≠2))->s.may=if s.place.sE=0\/s.place.at_<0\/s.place.len<1 then aQ else if s.open_=aP then Cu s s.body else s.body==[]:=by grind [Seen.may]
 have e2:(s.key.length<1\/64<s.key.length\/s.fQ=0\/(s.kind≠1/\s.kind≠2))->s.may=aQ:=by grind [Seen.may]
 have hls:s.fQ.toNat=0↔s.fQ=0:=⟨λh=>iX.1 (by rw[h];rfl),λh=>by rw[h];rfl⟩;have hsg:s.place.sE.toNat=0↔s.place.sE=0:=⟨λh=>fk.1 (by rw[h];rfl),λh=>by rw[h];rfl⟩;refine SU (ι:={t:ai // t=decide (s.key.length<1\/64<s.key.length\/s.fQ=0\/(s.kind≠1/\s.kind≠2))}) (λt=>([(1,bu b1),(3,bu b3),(6,.bool t.1)],[bx b1 155 s.cs,bx b3 153 s.place.cs])) (λt=>?_) (λK fin=>?_)
 ·obtain⟨t,ht⟩:=t;dsimp only;refine xB ?_ ?_<;>intro h0
  ·have h0:t=aP:=h0;subst h0;refine xS ?_;exact bad (e2 bQ) U
  ·have h0:t=aQ:=h0;subst h0;have hc:¬(s.key.length<1\/64<s.key.length\/s.fQ=0\/(s.kind≠1/\s.kind≠2)):=of_decide_eq_false ht.symm;have e1:=e1 hc;have hk2:s.kind=1\/s.kind=2:=bw;have Ze:0<=s.kind:=bw;have PF:s.key.length<=1000000000000:=bw;refine xT 36 ?_ ?_<;>intro g1
   ·rw[ao (.inl (hsg.1 bQ))]at e1;refine xS ?_;exact bad e1 U
   ·have g1:¬s.place.sE=0:=bQ;refine xT 41 ?_ ?_<;>intro g2
    ·rw[ao (.inr (.inl bQ))]at e1;refine xS ?_;exact bad e1 U
    ·have g2:¬s.place.at_<0:=bQ;refine xB ?_ ?_<;>intro g3
     ·rw[ao (.inr (.inr bQ))]at e1;refine xS ?_;exact bad e1 U
     ·have g3:¬s.place.len<1:=bQ;rw[aj bQ]at e1;refine xB ?_ ?_<;>intro g4
      ·rw[ao g4]at e1;refine xJ (TU G s s.body Ze PF) ?_;exact cT hb (.tmps U) ⟨by rw[e1];rfl,U⟩
      ·rw[aj (by simp[g4])]at e1;refine xS ?_;exact cT hb (.tmps U) ⟨by rw[e1];rfl,U⟩
 ·have go:∀{vs:Y (ab×aR)} {H F:Y bG} (t:ai),t=decide (s.key.length<1\/64<s.key.length\/s.fQ=0\/(s.kind≠1/\s.kind≠2))->lk vs 1=aN (bu b1)->lk vs 3=aN (bu b3)->lk vs 6=aN (.bool t)->ES H [bx b1 155 s.cs,bx b3 153 s.place.cs] F->X be b O aO (.it K) ⟨56,vs,[]⟩ H (dX (.bool s.may)):=by
   intro vs H F t h1 h2 h3 h4 h5;exact X.less (fin ⟨t,h1⟩) (s3_ h2 h3 h4) bA
  refine xT 11 ?_ ?_<;>intro h1
  ·exact ac2
  ·have h1:¬s.key.length<1:=bQ;refine xT 17 ?_ ?_<;>intro h2
   ·exact ac2
   ·have h2:¬64<s.key.length:=bQ;refine xT 22 ?_ ?_<;>intro h3
    ·exact ac2
    ·have h3:¬s.fQ=0:=bQ;refine yT 26 (s.kind≠1) (s.kind=1) ?_ ?_<;>intro h4
     ·refine xS ?_;exact go (s.kind !=2) bQ U U U ax
     ·refine xS ?_;exact go aQ bQ U U U ax
abbrev Seen.spot(s:Seen):Seen:=⟨s.key,s.fQ,s.kind,s.place,aQ,[]⟩
theorem TV(s:Seen):TR be G 317 #[.agg s.cs.toArray] [] (dX (.agg s.spot.cs.toArray)):=by
 refine dH U λb O hb hG=>?_;refine xP ?_;intro b1;refine xA ?_;intro b2;exact cT hb (.jf U U .nil) ⟨U,U⟩
theorem bs8(o s:Seen):((o.key==s.key)&&(((o.fQ.toNat:ae)==s.fQ.toNat)&&((o.kind==s.kind)&&((((o.place.sE.toNat:ae)==s.place.sE.toNat)&&((o.place.at_==s.place.at_)&&(o.place.len==s.place.len)))&&((aQ==aQ)&&(([]:Bs)==[]))))))=decide (o.spot=s.spot):=by
 obtain⟨k1,l1,q1,⟨p1,p2,p3⟩,_,_⟩:=o
 obtain⟨k2,l2,q2,⟨r1,r2,r3⟩,_,_⟩:=s
 grind [iX,fk]
def Seen.same(o s:Seen):ai:=decide (o.spot=s.spot)&&(!o.open_|| !s.open_||o.body==s.body)
theorem aF9(o s:Seen)(b1:ab):TR be G 316 #[.agg o.cs.toArray,bu b1] [bx b1 155 s.cs] (dC λv B=>v=.bool (o.same s)/\B=[bx b1 155 s.cs]):=by
 refine bZ U λb O hb hG=>?_
 refine xP ?_
 intro b2
 have he:=bs8 o s
 unfold Seen.same
 refine ph [0,2,4,5,6,7,8,9,10,11,12,13,14,15,16,17,18,19,20,21] [0,1] ?_
 refine xL [0,2] ?_
 refine xJ (TV G o) ?_
 refine jJ hG (TV G s) U U U ?_
 refine X.go 1 U U ?_
 refine X.uv ?_
 by_cases h1:o.spot=s.spot
 ·have he:=he.trans (aK h1)
  rw[aK h1,Bool.true_and]
  by_cases h2:o.open_=aP
  ·by_cases h3:s.open_=aP
   ·apply dB [4,5,6,7,8,9,10,11,12,13,14,15,16,17,18,19,20,21] U U U
    ·intro p hp
     refine xS ?_
     refine bD 9 aP U he (xS ?_)
     refine bD 13 aQ U (by simp[h2]) (xS ?_)
     refine bD 18 aQ U (by simp[h3]) (xS ?_)
     exact hp
    ·rfl
    ·rfl
    refine xS ?_
    exact X.ret hb (.tmps U) ⟨[bx b1 155 s.cs],⟨by grind [mv],U⟩,bA⟩
   ·apply dB [4,5,6,7,8,9,10,11,12,13,14,15,16,17,18,19,20,21] U U U
    ·intro p hp
     refine xS ?_
     refine bD 9 aP U he (xS ?_)
     refine bD 13 aQ U (by simp[h2]) (xS ?_)
     refine bD 18 aP U (by simp[h3]) (xS ?_)
     exact hp
    ·rfl
    ·rfl
    refine xS ?_
    exact X.ret hb (.tmps U) ⟨[bx b1 155 s.cs],⟨by grind [mv],U⟩,bA⟩
  ·apply dB [4,5,6,7,8,9,10,11,12,13,14,15,16,17,18,19,20,21] U U U
   ·intro p hp
    refine xS ?_
    refine bD 9 aP U he (xS ?_)
    refine bD 13 aP U (by simp[h2]) (xS ?_)
    exact hp
   ·rfl
   ·rfl
   refine xS ?_
   exact X.ret hb (.tmps U) ⟨[bx b1 155 s.cs],⟨by simp[mv,h2],U⟩,bA⟩
 ·have he:=he.trans (aM h1)
  rw[aM h1,Bool.false_and]
  apply dB [4,5,6,7,8,9,10,11,12,13,14,15,16,17,18,19,20,21] U U U
  ·intro p hp
   refine xS ?_
   refine bD 9 aQ U he (xS ?_)
   exact hp
  ·rfl
  ·rfl
  refine xS ?_
  exact X.ret hb (.tmps U) ⟨[bx b1 155 s.cs],⟨U,U⟩,bA⟩
def K8(p q:Seen):ae:=Xy [oJ p.fQ.toNat q.fQ.toNat,MT p.body q.body,uH q.place p.place]
theorem Q8(p q:Seen):TR be G 216 #[.agg p.cs.toArray,.agg q.cs.toArray] [] (dX (bR (K8 p q))):=by
 refine bZ U λb O hb hG=>xS ?_;refine X.box U U U U λb1=>?_;refine xP ?_;intro b2;refine ph [0,1,2,3,5,6,7,8,10,11,12,13] [1,0] ?_;refine xL [0,1,2,3,5,6,7,8,10,11,12,13] ?_;refine xJ (Ft G q.place p.place) ?_;refine xZ ?_;intro b3;refine jx b3 (λx=>[bR x]) [oJ p.fQ.toNat q.fQ.toNat,MT p.body q.body,uH q.place p.place] U (λ_=>rfl) ?_;refine xJ (YP G _ _ _ [oJ p.fQ.toNat q.fQ.toNat,MT p.body q.body,uH q.place p.place] U dW) ?_;exact xR
theorem Gm(n c:ab)(xs:Y Seen)(fd:ab)[CF be fd](fst cap:Y aR)(S:bG)(p:Seen->ai)(qL:∀x∈xs,TR be G fd (fst++[iD x.cs.toArray]++cap).toArray [S] (dC λv B=>v=.bool (p x)/\B=[S]))(hn:xs.length=n)(hs:n<=1099511627776):
 TR be G 314 #[.slice a n c,.func (.func fd) fst.toArray cap.toArray] [dp (cy Seen.cs) 8 a xs,S] (dC λv B=>v=bR (dM p 0 xs)/\B=[S]):=by
 refine bZ U λb O hb hG=>xS ?_
 refine fR [0,1] [] (ι:={i:ab // i<=n/\dM p 0 xs=dM p i (xs.drop i)}) (λi q_=>(7,bR n)::(8,bR i.1)::q_) (λi q_=>q_) (λi=>n - i.1) ⟨0,bp _,U⟩ ?_
 rintro⟨i,hi,hE⟩ ih
 dsimp only
 refine xB ?_ ?_<;>intro h
 ·have hi:i<xs.length:=bQ;refine xS ?_;refine dJ U U U U U hi hn λbl o=>?_;rw[ky _ xs i hi]at hE;have jv:xs[i]∈xs:=bE hi;generalize xs[i]=x at*;refine xS ?_;refine eT U U U U (xS ?_);refine jd (fst:=fst) (us:=[iD x.cs.toArray]) (cap:=cap) hG (qL x jv) U U U U bS.es ?_;exact aE3
 ·exact aE4
theorem NR(n c:ab)(xs:Y Seen)(fd:ab)[CF be fd](fst cap:Y aR)(S:bG)(p:Seen->ai)(qL:∀x∈xs,TR be G fd (fst++[iD x.cs.toArray]++cap).toArray [S] (dC λv B=>v=.bool (p x)/\B=[S]))(hn:xs.length=n)(hs:n<=1099511627776):
 TR be G 210 #[.slice a n c,.func (.func fd) fst.toArray cap.toArray] [dp (cy Seen.cs) 8 a xs,S] (dC λv B=>v=.bool (xs.any p)/\B=[S]):=by
 refine bZ U λb O hb hG=>?_
 refine xE (Gm G a n c xs fd fst cap S p qL hn hs) ?_
 exact cT hb (.tmps U) ⟨by grind [mv,AJ],U⟩
theorem VJ(s:Seen):TR be G 211 #[.agg s.cs.toArray] [] (dX (.bool (!s.may))):=by
 refine dH U λb O hb hG=>?_;refine xP ?_;intro b1;refine xJ (bs7 G s) ?_;exact xR
instance:ze be 235 (.slice aO 0 0):=⟨by kernel_rfl⟩
abbrev Cv:=(ah aX×ab)×Y Seen
abbrev uc:=Y (Bs×Cv)
abbrev yD(e:Cv):aR:=.slice e.1.1 e.2.length e.1.2
abbrev kJ(fs:uc):Y (Bs×aR):=fs.map λx=>(x.1,yD x.2)
def kE(e:Cv):bG:=own 155 8 e.1.1 e.2.length e.1.2 (e.2.flatMap Seen.cs)
def kA(x:Bs×Cv):bG:=kE x.2
abbrev fu:=Y (Bs×Y Seen)
def Ip(fs:uc):fu:=fs.map λx=>(x.1,x.2.2)
def oK(fs:uc)(k:Bs):Cv:=((fs.find? (·.1=k)).map (·.2)).getD ((aO,0),[])
def kT{α:Type}(fs:Y (Bs×α))(k:Bs):Y (Bs×α):=fs.filter λx=> !(x.1==k)
def AZ(fs:uc)(k:Bs)(e:Cv):uc:=
 match fs.findIdx? (·.1=k)with
 |some i=>fs.set i (k,e)
 |none=>fs++[(k,e)]
def mi(d:fu)(k:Bs):Y Seen:=((d.find? (·.1=k)).map (·.2)).getD []
def Iq(d:fu)(k:Bs)(l:Y Seen):fu:=(k,l)::kT d k
def eZ(d:fu):ab:=(d.map λx=>x.2.length).sum
structure fu.ok(d:fu):Prop where
 nd:(d.map (·.1)).Nodup
 may:∀x∈d,∀s∈x.2,s.key=x.1/\s.may=aP
 ne:∀x∈d,x.2≠[]
theorem A0:∀(d:fu),(∀x∈d,x.2≠[])->d.length<=eZ d
 |[],_=>bz _
 |x::r,h=>by
  have h1:=A0 r λy hy=>h y D9;have h2:0<x.2.length:=gL.2 (h x dW);have h3:eZ (x::r)=x.2.length+eZ r:=by unfold eZ;simp
  exact a86
def jc(K:ab)(d:fu):bG:=ex λq:ab×uc=>[pu ((Ip q.2).Perm d/\d.ok),bx K 234 [.map (aN q.1)],mp bn q.1 (kJ q.2),dZ (q.2.map kA)]
theorem Cw(fs:uc)(k:Bs):(gM (kJ fs) k).getD (.slice aO 0 0)=yD (oK fs k):=by
 unfold gM oK;induction fs<;>grind
theorem NS(fs:uc)(k:Bs):mi (Ip fs) k=(oK fs k).2:=by
 unfold mi oK Ip;induction fs<;>grind
theorem VK(fs:uc)(k:Bs)(e:Cv):iT (kJ fs) k (yD e)=kJ (AZ fs k e):=by
 unfold iT AZ
 have h:(kJ fs).findIdx? (λx=>x.1=k)=fs.findIdx? (λx=>x.1=k):=by
  rw[kJ,List.findIdx?_map];rfl
 grind [fL]
theorem nb{fs:Y (Bs×α)}(h:k∉fs.map (·.1)):kT fs k=fs:=by
 grind [kT,List.filter_eq_self]
theorem oc{α:Type}{k:Bs}:∀{fs:Y (Bs×α)},k∈fs.map (·.1)->∃pre y post,fs=pre++(k,y)::post/\k∉pre.map (·.1)
 |[],h=>by cases h
 |x::r,h=>by
  by_cases hx:x.1=k
  ·exact⟨[],x.2,r,by rw[<-hx];rfl,by simp⟩
  ·have h2:k∈r.map (·.1):=by
    grind
   obtain⟨pre,y,post,h3,h4⟩:=oc h2
   grind
theorem sZ{pre post:Y (Bs×α)}{y:α}(j7:((pre++(k,y)::post).map (·.1)).Nodup):kT (pre++(k,y)::post) k=pre++post:=by
 rw[dx,bN,fN,gy]at j7
 have h1:kT pre k=pre:=by grind [nb]
 have h2:kT post k=post:=nb j7.2.1.1
 grind [kT]
theorem Cx{fs:uc}(h:k∉fs.map (·.1)):oK fs k=((aO,0),[]):=by
 grind [oK]
theorem Gn{fs:uc}(j7:(fs.map (·.1)).Nodup)(h:k∈fs.map (·.1)):fs.Perm ((k,oK fs k)::kT fs k):=by
 obtain⟨pre,y,post,rfl,h2⟩:=oc h
 grind [oK,sZ]
theorem Jh{fs:uc}(e:Cv)(j7:(fs.map (·.1)).Nodup):(AZ fs k e).Perm ((k,e)::kT fs k):=by
 unfold AZ
 by_cases h:k∈fs.map (·.1)
 ·obtain⟨pre,y,post,rfl,h2⟩:=oc h
  have h3:(pre++(k,y)::post).findIdx? (λx=>x.1=k)=aN pre.length:=by
   grind
  grind [sZ]
 grind [nb]
theorem UJ{fs:uc}(j7:(fs.map (·.1)).Nodup)(F:Y bG):bS (dZ (fs.map kA)::F) (kE (oK fs k)::dZ ((kT fs k).map kA)::F):=by
 by_cases h:k∈fs.map (·.1)
 ·refine(iR _ F).trans ?_;refine(je (ew ((Gn j7 h).map kA)) F).trans ?_;exact bS.cons _ (iE _ F)
 ·rw[Cx h,nb h];exact fh 155 8 _
theorem PK{fs:uc}(j7:(fs.map (·.1)).Nodup)(F:Y bG):bS (kE (oK fs k)::dZ ((kT fs k).map kA)::F) (dZ (fs.map kA)::F):=by
 by_cases h:k∈fs.map (·.1)
 ·refine(bS.cons _ (iR _ F)).trans ?_;refine(je (B:=fs.map kA) (ew ((Gn j7 h).map kA).symm) F).trans ?_;exact iE _ F
 ·rw[Cx h,nb h];exact bS.drop _ _
theorem UF{fs:uc}(e:Cv)(j7:(fs.map (·.1)).Nodup)(F:Y bG):bS (kE e::dZ ((kT fs k).map kA)::F) (dZ ((AZ fs k e).map kA)::F):=by
 refine(bS.cons _ (iR _ F)).trans ?_;refine(je (B:=(AZ fs k e).map kA) (ew ((Jh e j7).map kA).symm) F).trans ?_;exact iE _ F
theorem Gp(fs:uc):(Ip fs).map (·.1)=fs.map (·.1):=by simp[Ip,Function.comp_def]
theorem VL(fs:uc)(k:Bs):Ip (kT fs k)=kT (Ip fs) k:=by
 unfold Ip kT;rw[List.filter_map];rfl
theorem NT{d d':Y (Bs×α)}(h:d.Perm d')(k:Bs):(kT d k).Perm (kT d' k):=h.filter _
theorem Ji{d d':fu}(h:d.Perm d')(j7:(d'.map (·.1)).Nodup)(k:Bs):mi d k=mi d' k:=by
 have hnd1:(d.map (·.1)).Nodup:=(h.map _).nodup_iff.2 j7
 unfold mi
 by_cases hk:k∈d.map (·.1)
 ·obtain⟨pre,y,post,rfl,h2⟩:=oc hk
  have hm:(k,y)∈d':=h.mem_iff.1 dW
  obtain⟨pre',post',rfl⟩:=List.append_of_mem hm
  grind
 grind [List.find?_eq_none]
theorem NU{fs:uc}{d:fu}(e:Cv)(h:(Ip fs).Perm d)(j7:(fs.map (·.1)).Nodup):(Ip (AZ fs k e)).Perm (Iq d k e.2):=by
 have h1:=(Jh (k:=k) e j7).map λx=>(x.1,x.2.2);refine List.Perm.trans h1 ?_;rw[bN];refine iJ _ ?_;have h2:=NT h k;rw[<-VL]at h2;exact h2
theorem Cy(d:Y (Bs×α))(k:Bs):(kT d k).Sublist d:=List.filter_sublist
theorem VM(d:Y (Bs×α))(k:Bs):k∉(kT d k).map (·.1):=by
 intro h
 obtain⟨x,hx,hk⟩:=cu.1 h
 have:=(eM.1 hx).2
 grind
theorem fu.ok.put{d:fu}(h:d.ok)(k:Bs)(l:Y Seen)(hl:∀s∈l,s.key=k/\s.may=aP)(mf:l≠[]):(Iq d k l).ok:=by
 refine⟨?_,?_,?_⟩
 ·rw[Iq,bN,gy];exact⟨VM d k,h.nd.sublist ((Cy d k).map _)⟩
 ·intro x hx;rcases cW.1 hx with rfl|hx
  ·exact hl
  ·exact h.may x ((Cy d k).subset hx)
 ·intro x hx;rcases cW.1 hx with rfl|hx
  ·exact mf
  ·exact h.ne x ((Cy d k).subset hx)
theorem fu.ok.get{d:fu}(h:d.ok)(k:Bs):∀s∈mi d k,s.key=k/\s.may=aP:=by
 intro s hs;unfold mi at hs;cases hf:d.find? (·.1=k)with
 |none=>grind
 |some x=>
  rw[hf]at hs
  have h1:=List.mem_of_find?_eq_some hf
  have h2:=List.find?_some hf
  have h3:x.1=k:=bQ
  have:=h.may x h1 s hs
  grind
theorem VN{d d':fu}(h:d.Perm d'):eZ d=eZ d':=(h.map _).sum_nat
theorem ud(d:fu)(k:Bs)(j7:(d.map (·.1)).Nodup):(mi d k).length+eZ (kT d k)=eZ d:=by
 by_cases hk:k∈d.map (·.1)
 ·obtain⟨pre,y,post,rfl,h2⟩:=oc hk
  grind [sZ,mi,eZ]
 grind [nb,mi,List.find?_eq_none]
theorem BZ{k:Kt}{d:fu}[hf:FK H jc K d F](h:∀(M:ab) (fs:uc),(Ip fs).Perm d->d.ok->(fs.map (·.1)).Nodup->X be b O cc k E (bx K 234 [.map (aN M)]::mp bn M (kJ fs)::dZ (fs.map kA)::F) R):X be b O cc k E H R:=
 j9 λw hs=>by
  obtain⟨⟨M,fs⟩,h1⟩:=jB (hs.dE hf.out)
  obtain⟨⟨hp,eI⟩,h2⟩:=lR h1
  refine⟨_,h2,h M fs hp eI ?_⟩
  have:=((hp.map (·.1)).nodup_iff.2 eI.nd)
  grind [Gp]
theorem aG0{K M:ab}{d:fu}{fs:uc}(hp:(Ip fs).Perm d)(eI:d.ok)(F:Y bG):bS (bx K 234 [.map (aN M)]::mp bn M (kJ fs)::dZ (fs.map kA)::F) (jc K d::F):=
 (fE ⟨hp,eI⟩ _).trans (iY (f:=λq:ab×uc=>[pu ((Ip q.2).Perm d/\d.ok),bx K 234 [.map (aN q.1)],mp bn q.1 (kJ q.2),dZ (q.2.map kA)]) (M,fs) F)
theorem yX{k:Kt}(M:ab)(fs:uc){d:fu}(hp:(Ip fs).Perm d)(eI:d.ok)[hE:ES H [bx K 234 [.map (aN M)],mp bn M (kJ fs),dZ (fs.map kA)] F](h:X be b O cc k E (jc K d::F) R):X be b O cc k E H R:=
 X.dE (hE.out.trans (aG0 hp eI F)) h
def nD(l:Y Seen)(s:Seen):Y Seen:=
 let i:=dM (λo=>o.same s) 0 l
 if i<0 then l++[s]else if s.open_=aP then l.set i.toNat s else l
def fu.take(d:fu)(s:Seen):fu:=Iq d s.key (nD (mi d s.key) s)
theorem Gq(l:Y Seen)(s:Seen)(k:Bs)(hl:∀x∈l,x.key=k/\x.may=aP)(hs:s.key=k/\s.may=aP):∀x∈nD l s,x.key=k/\x.may=aP:=by
 grind [nD]
theorem Jj(l:Y Seen)(s:Seen):nD l s≠[]:=by
 unfold nD
 dsimp only
 split
 ·simp
 grind [dM,fJ]
theorem fu.ok.take{d:fu}(h:d.ok){s:Seen}(hs:s.may=aP):(d.take s).ok:=h.put _ _ (Gq _ _ _ (h.get _) ⟨U,hs⟩) (Jj _ _)
theorem Q9(l:Y Seen)(s:Seen):(nD l s).length<=l.length+1:=by
 grind [nD]
theorem Ks{d:fu}(h:d.ok)(s:Seen):eZ (d.take s)<=eZ d+1:=by
 have h1:=ud d s.key h.nd
 grind [eZ,nD,fu.take,Iq]
theorem NV{α:Type}(p:α->ai):∀(l:Y α) (i:ab),dM p i l<0\/∃j:ab,dM p i l=j/\i<=j/\j<i+l.length
 |[],i=>by grind [dM]
 |x::r,i=>by
  unfold dM
  split
  ·grind
  ·rcases NV p r (i+1)with h|⟨j,h1,h2,h3⟩;all_goals grind
theorem Em{k:Kt}(fs:uc)(key:Bs)(j7:(fs.map (·.1)).Nodup)[hf:FP H (dZ (fs.map kA)) F](h:X be b O cc k E (own 155 8 (oK fs key).1.1 (oK fs key).2.length (oK fs key).1.2 ((oK fs key).2.flatMap Seen.cs)::dZ ((kT fs key).map kA)::F) R):X be b O cc k E H R:=
 X.dE (hf.out.trans (UJ j7 F)) h
theorem Ae{k:Kt}(fs:uc)(key:Bs)(j7:(fs.map (·.1)).Nodup){a:ah aX}{c:ab}{l:Y Seen}(he:oK fs key=((a,c),l))[hE:ES H [own 155 8 a l.length c (l.flatMap Seen.cs),dZ ((kT fs key).map kA)] F](h:X be b O cc k E (dZ (fs.map kA)::F) R):X be b O cc k E H R:=by
 refine X.dE (hE.out.trans ?_) h
 have:=PK (k:=key) j7 F
 rw[he]at this
 exact this
theorem Yj{k:Kt}(fs:uc)(key:Bs)(j7:(fs.map (·.1)).Nodup)(a:ah aX)(c:ab)(l:Y Seen)[hE:ES H [own 155 8 a l.length c (l.flatMap Seen.cs),dZ ((kT fs key).map kA)] F](h:X be b O cc k E (dZ ((AZ fs key ((a,c),l)).map kA)::F) R):X be b O cc k E H R:=
 X.dE (hE.out.trans (UF (k:=key) ((a,c),l) j7 F)) h
theorem ac3{fs:uc}(h:(oK fs k).2≠[]):k∈fs.map (·.1):=by
 grind [Cx]
theorem VO{fs:uc}{e:Cv}(h:k∈fs.map (·.1))(hv:yD e=yD (oK fs k)):kJ (AZ fs k e)=kJ fs:=by
 obtain⟨pre,y,post,rfl,h2⟩:=oc h
 have h3:(pre++(k,y)::post).findIdx? (λx=>x.1=k)=aN pre.length:=by
  grind
 grind [oK,AZ]
theorem VP{d:fu}(j7:(d.map (·.1)).Nodup)(h:mi d k≠[]):d.Perm (Iq d k (mi d k)):=by
 by_cases hk:k∈d.map (·.1)
 ·obtain⟨pre,y,post,rfl,h2⟩:=oc hk
  grind [mi,Iq,sZ]
 grind [mi,List.find?_eq_none]
theorem TW(K:ab)(d:fu)(s:Seen)(hs:s.may=aP)(iP:eZ d<=1000000000):
 TR be G 213 #[bu K,.agg s.cs.toArray] [jc K d] (dC λv B=>v=.tuple #[]/\B=[jc K (d.take s)]):=by
 refine bZ U λb O hb hG=>xS ?_
 refine X.box U U U U λb3=>?_
 refine BZ K λM fs hp eI j7=>xS ?_
 refine fU 7 [0,3,1] ?_
 refine xL [0,1,2,3,4,5] ?_
 refine xS ?_
 refine tP s.key U U U U ?_
 rw[Cw]
 have hg:mi d s.key=(oK fs s.key).2:=bJ7
 have VQ:=ud d s.key eI.nd
 have sK:=eI.get s.key
 refine Em fs s.key j7 ?_
 generalize hE:oK fs s.key=e at*
 obtain⟨⟨a,c⟩,l⟩:=e
 dsimp only[yD]at hg ⊢
 rw[hg]at VQ sK
 have hI:=nG (c:=c) (e:=155) (Gm G a l.length c l 316 [] [bu b3] (bx b3 155 s.cs) (λo=>o.same s) (λx _=>aF9 G x s b3) U bw) (by rintro v B ⟨rfl,rfl⟩;infer_instance) U (λ_=>rfl)
 refine xS ?_
 refine cP hI ?_
 rintro v B ⟨B',⟨rfl,rfl⟩,rfl⟩
 dsimp only[bh,bk,bj]
 have e0:d.take s=Iq d s.key (if dM (λo=>o.same s) 0 l<0 then l++[s]else if s.open_=aP then l.set (dM (λo=>o.same s) 0 l).toNat s else l):=by
  rw[fu.take,hg];rfl
 have vz:=NV (λo=>o.same s) l 0
 generalize dM (λo=>o.same s) 0 l=i at*
 have vD:=eI.take hs
 generalize d.take s=d2 at*
 refine yB (i<0) (¬i<0) ?_ ?_<;>intro h1
 ·rw[ao h1]at e0;subst e0;refine xS ?_;refine fU 8 [3,1] ?_;refine xL [0,1,2,3,4,5,6,7] ?_;refine xZ ?_;intro b8;refine fH (s) U U U U bw U cE cE cE cE cE bw λa8 c8=>xS ?_;refine rM s.key dy U U U U ?_;rw[show(Value.slice a8 (l++[s]).length c8)=yD ((a8,c8),l++[s])from rfl,VK];refine xS ?_;refine Yj fs s.key j7 a8 c8 (l++[s]) ?_;refine yX K M (AZ fs s.key ((a8,c8),l++[s])) (NU _ hp j7) vD ?_;exact xF
 ·rw[aj h1]at e0;obtain⟨j,hj,_,hjl⟩:∃j:ab,i=j/\0<=j/\j<0+l.length:=vz.resolve_left h1;subst hj;have hlne:(oK fs s.key).2≠[]:=bQ;refine xB ?_ ?_<;>intro h2
  ·rw[ao h2]at e0;subst e0;refine xS ?_;refine gZ a bw λbl zX=>?_;subst zX;refine eA U U U U U bw (xS ?_);refine pA (cC:=Seen.cs) (l:=l) j s U U U U (λ_=>rfl) dW bw U U (xS ?_);rw[gS]at vD ⊢;have qN:(l.set j s).length=l.length:=fJ;have hkm:kJ (AZ fs s.key ((aN ⟨bl,0,aO⟩,c),l.set j s))=kJ fs:=by grind [VO,ac3]
   have Ty:=NU (k:=s.key) ((aN ⟨bl,0,aO⟩,c),l.set j s) hp j7;refine X.dE (Hs':=[own 155 8 (aN ⟨bl,0,aO⟩) (l.set j s).length c ((l.set j s).flatMap Seen.cs),bx K 234 [.map (aN M)],mp bn M (kJ (AZ fs s.key ((aN ⟨bl,0,aO⟩,c),l.set j s))),dZ ((kT fs s.key).map kA)]) (by rw[qN,hkm];exact bA) ?_;refine Yj fs s.key j7 (aN ⟨bl,0,aO⟩) c (l.set j s) ?_;refine yX K M (AZ fs s.key ((aN ⟨bl,0,aO⟩,c),l.set j s)) Ty vD ?_;exact xF
  ·rw[aj MZ]at e0;subst e0;refine xS ?_;refine Ae fs s.key j7 hE ?_;refine yX K M fs (hp.trans ?_) vD ?_
   ·have:=VP (k:=s.key) eI.nd bQ
    grind
   exact xF
theorem BX{P:aT}{G:dA}{f:FuncId}{args:ar aR}{A:Y bG}{Q:aR->Y bG->Prop}(h:TR P G f args A (dC Q))(F:Y bG):TR P G f args (A++F) (dC λv B=>∃B',Q v B'/\B=B'++F):=by
 intro O w hG hs;obtain⟨β',hβ,Ao,sT⟩:=mo hs;refine(h β' w (G.mono hβ hG) Ao).mono ?_;rintro e w' ⟨B,hB,Fi⟩;cases e with
 |panicked ch=>exact hB.elim
 |outgrown=>exact hB.elim
 |returned v=>exact⟨_,⟨B,hB,U⟩,sT B w' Fi⟩
structure Wr where
 ed:ab
 every:ab
 number:av
 size:ab
 loose:ab
 count:ab
 shut:ai
structure Wr.ok(w:Wr):Prop where
 l1:64<=w.ed
 l2:w.ed<=1048576
 e2:w.every<=1000
 sz:w.size<=w.ed+6100
 lo:w.loose<=w.size
 co:9*w.count<=w.loose
abbrev Wr.cs(D:ab)(w:Wr):Y aR:=[bu D,.int .i64 w.ed,.int .i64 w.every,.int .u32 w.number.toNat,.int .i64 w.size,.int .i64 w.loose,.int .i64 w.count,.bool w.shut]
def Wr.hit(w:Wr)(e:ae):Wr:={w with shut:=w.shut||(e==74||e==75)}
def iG(w:Wr):Bs:=(gU 1 w.number).1
theorem NW(ed every:ae):TR be G 64 #[bu D,.int .i64 ed,.int .i64 every] []
 (dC λv B=>(¬(64<=ed/\ed<=1048576/\0<=every/\every<=1000)/\v=.tuple #[.pointer aO,.int .i64 90]/\B=[])\/
  ((64<=ed/\ed<=1048576/\0<=every/\every<=1000)/\∃W,v=.tuple #[bu W,.int .i64 0]/\B=[bx W 177 (Wr.cs D ⟨ed.toNat,every.toNat,0,0,0,0,aQ⟩)])):=by
 refine jy U λb O hb hG=>?_
 have bad:∀{N vs k H},¬(64<=ed/\ed<=1048576/\0<=every/\every<=1000)->lk vs 6=aN (.pointer aO)->lk vs 7=aN (.int .i64 90)->X be b O aO (.it (.code .ret::k)) ⟨N,vs,[]⟩ H
  (dC λv B=>(¬(64<=ed/\ed<=1048576/\0<=every/\every<=1000)/\v=.tuple #[.pointer aO,.int .i64 90]/\B=[])\/
   ((64<=ed/\ed<=1048576/\0<=every/\every<=1000)/\∃W,v=.tuple #[bu W,.int .i64 0]/\B=[bx W 177 (Wr.cs D ⟨ed.toNat,every.toNat,0,0,0,0,aQ⟩)])):=by
  intro N vs k H he h1 h2
  exact X.ret hb (.tmp h1 (.tmp h2 .nil)) ⟨_,.inl ⟨he,U,U⟩,bS.nil _⟩
 refine yT 10 (ed<64) (¬ed<64) ?_ ?_<;>intro h1
 ·exact TX
 ·refine yT 14 (ed>1048576) (¬ed>1048576) ?_ ?_<;>intro h2
  ·exact TX
  ·refine yT 18 (every<0) (¬every<0) ?_ ?_<;>intro h3
   ·exact TX
   ·refine yB (every>1000) (¬every>1000) ?_ ?_<;>intro h4
    ·exact TX
    ·obtain⟨l,rfl⟩:∃k:ab,ed=k:=⟨ed.toNat,by omega⟩;obtain⟨q,rfl⟩:∃k:ab,every=k:=⟨every.toNat,by omega⟩;refine xP ?_;intro W;exact X.ret hb (.tmps U) ⟨[bx W 177 [bu D,.int .i64 l,.int .i64 q,.int .u32 0,.int .i64 0,.int .i64 0,.int .i64 0,.bool aQ]],.inr ⟨by omega,W,U,U⟩,bA⟩
theorem K9(W D:ab)(w:Wr)(fd:ab)[CF be fd](fst cap:Y aR)(S S':bG)(e:ae)
 (qL:TR be GG fd (fst++[bn (iG w)]++cap).toArray [bx W 177 (w.cs D),S] (dC λv B=>v=.int .i64 e/\B=[bx W 177 (w.cs D),S'])):
 TR be GG 205 #[bu W,.func (.func fd) fst.toArray cap.toArray] [bx W 177 (w.cs D),S] (dC λv B=>v=.int .i64 e/\B=[bx W 177 ((w.hit e).cs D),S']):=by
 refine bZ U λb O hb hG=>?_
 refine xJ (AY 1 w.number) ?_
 rw[show(gU 1 w.number).1=iG w from rfl]
 refine xS ?_
 refine jd (fst:=fst) (us:=[bn (iG w)]) (cap:=cap) hG qL U U U U bS.es ?_
 rintro v B ⟨rfl,rfl⟩
 dsimp only[bh,bk,bj]
 unfold Wr.hit
 refine yT 21 (e=74) (e≠74) ?_ ?_<;>intro h1
 ·subst h1;exact a88
 ·refine yB (e=75) (e≠75) ?_ ?_<;>intro h2
  ·subst h2;exact a88
  ·refine xS ?_;have hw:(w.shut||(e==74||e==75))=w.shut:=by simp[h1,h2]
   exact X.ret hb (.tmps U) ⟨[bx W 177 (Wr.cs D w),S'],⟨U,by rw[hw]⟩,bA⟩
end
end Go.Proofs
