/- A part of the proof of LabLines. -/
import Derived.Test.YtcicblljnenhoaaGreatDoorRows
import Derived.Test.YtcicblljnenhoaaGreatDoorQB
open Array renaming getElem?_eq_some_iff->dT,getElem?_modify->eF,getElem?_toList->cZ
open Bool renaming false_and->ab6,false_eq_true->bY
open Go.Instr renaming checkKey->gv
open Int renaming toNat_natCast->fG
open Go.IntKind renaming bits->gy,i64->dV,signed->iW,u32->dK,u64->cN,u8->cC,wrap->ic
open Go.Lib renaming compareBytes->cI,countByte->bP,fields->iG,indexByte->cE,itoa->gK
open List renaming Perm.cons->fS,Perm.swap->eu,append_assoc->bT,append_nil->ah,cons_append->ae,drop_eq_getElem_cons->aP,drop_of_length_le->bc,drop_zero->fm,filterMap_cons->eI,findIdx?_eq_some_iff_getElem->bA,flatMap_cons->eQ,getElem?_eq_getElem->aV,getElem?_map->dO,getElem_map->ft,getElem_mem->aB,length->dq,length_append->aG,length_cons->ax,length_map->aA,length_nil->aR,length_pos_iff->fy,length_set->gB,length_take->cB,map_append->cq,map_congr_left->bQ,map_cons->aK,map_map->cz,map_nil->ie,map_set->eZ,mem_append->cM,mem_cons->bK,mem_filter->dZ,mem_map->bj,mem_of_find?_eq_some->Y,mem_singleton->bD,nil_append->ai,nodup_append->eP,nodup_cons->gA,perm_append_comm->cG,perm_middle->ee,replicate->bI,sum_cons->eC,take_add_one->aY,take_append_drop->cP,take_length->bh,take_of_length_le->aD,take_succ_eq_append_getElem->dd
open Nat renaming add_mul->fP,blt->aH,le_add_right->aT,le_of_ble_eq_true->aI,le_refl->ar,le_trans->aj,zero_add->aQ,zero_le->al
open Option renaming getD_some->bX,map_eq_some_iff->bk,map_some->bH,some.inj->dN,some.injEq->fF
open Go.Result renaming andThen->ig
open Go.Sem renaming run->fo,run_bind->aU
open Go.Proofs.Tryz renaming prog->ab,underlying139->fg,underlying3->ed,underlying4->fY,underlying5->fX,underlying87->eO,underlying9->cO
open UInt32 renaming ofNat->gz,toNat_inj->dM
open UInt64 renaming toNat_inj->gL
open UInt8 renaming ofNat->cu,toNat_inj->aa2
open Go.Value renaming agg->gn,int->eL
open Go.World renaming cell?->gj,cell?_alloc_lt->ew
set_option linter.all false
set_option maxHeartbeats 4000000
namespace Go.Proofs
open Go.Sl
set_option maxRecDepth 8000
section
variable{cc:Option (Array Oper×List Oper)}{name:Bs}{R:Ending->List az->Prop}{files:List (Bs×bF)}{Hs F:List az}{b:Frame}{bU:Int}{right:Bool}{E:Env}{f:bF}{β:bS}{k:Kt}(xs:Bs)(G:bZ)(a:Option Addr)(D M:Nat)(h:DH)
instance:wO ab 75 (.pointer none):=⟨by kernel_rfl⟩
abbrev oQ:=List (Bs×Nat×bF)
@[reducible] def dQ(fs:oQ):List (Bs×Value):=fs.map λx=>(x.1,au x.2.1)
def kq(fs:oQ)(name:Bs):Option (Nat×bF):=(fs.find? (·.1=name)).map (·.2)
def pv(o:Option (Nat×bF)):Option Addr:=o.map λx=>⟨x.1,0,none⟩
theorem vw(fs:oQ)(name:Bs):(fB (dQ fs) name).getD (.pointer none)=.pointer (pv (kq fs name)):=by
 unfold fB kq pv dQ;rw[List.find?_map];have e:((λx:Bs×Value=>decide (x.1=name))∘λx:Bs×Nat×bF=>(x.1,au x.2.1))=λx=>decide (x.1=name):=by funext x;rfl
 exact aK7
def l6(h:DH)(fs:oQ)(name:Bs)(right:Bool):Option (Nat×bF)×Int:=
 if h.down=true then(none,75)else if ¬(dy name=true/\right=true)then(none,70)else
 match kq fs name with
 |none=>(none,71)
 |some x=>(some x,0)
theorem qY(fs:oQ)(name:Bs)(right:Bool):
 TR ab G 187 #[au D,ao name,.bool right] [bx D 74 (h.cs M),mp ao M (dQ fs)] (cb λv B=>v=.tuple #[.pointer (pv (l6 h fs name right).1),.int .i64 (l6 h fs name right).2]/\B=[bx D 74 (h.cs M),mp ao M (dQ fs)]):=by
 refine jr U λb β hb hG=>?_
 have out:∀{N vs k Hs F} (p:Option (Nat×bF)) (e:Int),l6 h fs name right=(p,e)->lk vs 6=some (.pointer (pv p))->lk vs 7=some (.int .i64 e)->ES Hs [bx D 74 (h.cs M),mp ao M (dQ fs)] F->X ab b β none (.it (.code .ret::k)) ⟨N,vs,[]⟩ Hs (cb λv B=>v=.tuple #[.pointer (pv (l6 h fs name right).1),.int .i64 (l6 h fs name right).2]/\B=[bx D 74 (h.cs M),mp ao M (dQ fs)]):=by
  intro N vs k Hs F p e he h1 h2 h3;exact aG5
 have e0:l6 h fs name right=if h.down=true then((none,75):Option (Nat×bF)×Int)else if ¬(dy name=true/\right=true)then(none,70)else match kq fs name with
  |none=>((none,71):Option (Nat×bF)×Int)
  |some x=>((some x,0):Option (Nat×bF)×Int):=U
 refine xS ?_
 refine rJ name U U U U ?_
 rw[vw]
 refine xB ?_ ?_<;>intro h1
 ·rw[if_pos h1]at e0;refine xS ?_;exact out none 75 e0 U U inferInstance
 ·rw[if_neg bE]at e0;refine xT 25 ?_ ?_<;>intro h2
  ·exact aN1
  ·have h2:dy name=true:=by grind
   refine xB ?_ ?_<;>intro h3
   ·exact aN1
   ·have h3:right=true:=by grind
    rw[if_neg (by simp[h2,h3])]at e0;refine xS ?_;cases hd:kq fs name with
    |none=>
     rw[hd]at e0;dsimp only[pv,Option.map_none]at e0 ⊢;refine xS ?_;exact out none 71 e0 U U inferInstance
    |some x=>
     rw[hd]at e0;dsimp only[pv,bH]at e0 ⊢;refine xS ?_;exact out (some x) 0 e0 U U inferInstance
def wP(h:DH):DH:={h with bU:=dV.wrap (h.bU+1),ga:=h.ga - 1,ep:=h.ep - 1}
def af5(h:DH):Nat:=if h.ep=1 then(if h.done=true then 1 else 2)else if h.ga=1 then 3 else 0
def af6(h:DH):Int:=if h.ep=1 then 75 else if h.ga=1 then 74 else 0
theorem V8(fd:Nat)[CF ab fd](cap:List Value)(S S':az)(u:Nat)(hb1:h.ga<=9223372036854775807)(Ra:h.ep<=9223372036854775807)(Fy:TR ab G fd cap.toArray [bx D 74 (DH.cs M (wP h)),S] (cb λv B=>v=.tuple #[]/\B=[bx D 74 (DH.cs M {wP h with used:=u}),S'])):
 TR ab G 188 #[au D,.func (.func fd) #[] cap.toArray] [bx D 74 (h.cs M),S] (cb λv B=>v=.int .i64 (af6 h)/\B=(
  match af5 h with
  |0=>[bx D 74 (DH.cs M {wP h with used:=u}),S']
  |1=>[bx D 74 (DH.cs M {wP h with used:=u,down:=true}),S']
  |2=>[bx D 74 (DH.cs M {wP h with down:=true}),S]
  |_=>[bx D 74 (DH.cs M (wP h)),S])):=by
 refine aW U λb β hb hG=>?_
 obtain⟨cp,used,bU,fa,ba,dn,dw⟩:=h
 dsimp only[DH.cs,wP,af5,af6]at hb1 Ra Fy ⊢
 refine xS ?_
 refine Gf U U U U U (xS ?_)
 show X _ _ _ _ _ _ _ _
 refine nR [0,1,2,4,5,6] [] ?_
 refine xL [0,1,2,4,5,6] ?_
 refine xH (V6 G D M ⟨cp,used,dV.wrap (bU+1),fa,ba,dn,dw⟩ hb1) ?_
 dsimp only[DH.cs]
 refine xH (V7 G D M ⟨cp,used,dV.wrap (bU+1),fa - 1,ba,dn,dw⟩ Ra) ?_
 dsimp only[DH.cs]
 refine xB ?_ ?_<;>intro h1
 ·have h1:ba=1:=by grind
  subst h1;rw[if_pos U,if_pos U];refine xS ?_;cases dn
  ·exact VL
  ·exact W4
 ·have h1:¬ba=1:=by grind
  rw[if_neg h1,if_neg h1];refine xB ?_ ?_<;>intro h2
  ·have h2:fa=1:=by grind
   subst h2;rw[if_pos U,if_pos U];exact VL
  ·have h2:¬fa=1:=by grind
   rw[if_neg h2,if_neg h2];exact W4
theorem HB{P:Program}{α:Type}{Re:Rp α}{sz:Nat}{xs:List α}[hf:zI Hs a Re sz xs](h:X P b β cc k E (bV Re sz a xs::Hs) R):X P b β cc k E Hs R:=by
 obtain⟨rest,hr⟩:=hf.out
 exact X.cd (il hr λ_ h=>h) h
def aB6(fb:Nat)(f:bF):az:=ex λq:Option Addr×Nat=>[bx fb 78 [.slice q.1 f.data.length q.2,.int .i64 f.last],own 5 1 q.1 f.data.length q.2 (f.data.map fO)]
def fA(x:Bs×Nat×bF):az:=aB6 x.2.1 x.2.2
def nu(fs:oQ):List (Bs×bF):=fs.map λx=>(x.1,x.2.2)
def FT(M:Nat)(files:List (Bs×bF)):az:=ex λfs:oQ=>[pu (nu fs=files),mp ao M (dQ fs),cV (fs.map fA)]
structure be where
 cap:Nat
 used:Nat
 files:List (Bs×bF)
 ga:Nat
 ep:Nat
 done:Bool
 down:Bool
def gf(l:List (Bs×bF)):Nat:=(l.map λx=>x.2.data.length).sum
structure be.ok(s:be):Prop where
 nd:(s.files.map (·.1)).Nodup
 vX:s.used=gf s.files
 le:s.used<=s.cap
 cap:s.cap<=4194304
 fa:s.ga<=9223372036854775807
 ba:s.ep<=9223372036854775807
 last:∀x∈s.files,x.2.last<=x.2.data.length
 name:∀x∈s.files,dy x.1=true
def eA(s:be)(bU:Int):DH:=⟨s.cap,s.used,bU,s.ga,s.ep,s.done,s.down⟩
def j7(D:Nat)(s:be):az:=ex λq:Nat×Int=>[pu s.ok,bx D 74 ((eA s q.2).cs q.1),FT q.1 s.files]
def be.oR(s:be):be:={s with ga:=s.ga - 1,ep:=s.ep - 1}
def be.gZ(s:be)(files:List (Bs×bF))(u:Nat):be×Int:=
 if s.ep=1 then(if s.done=true then({s.oR with files:=files,used:=u,down:=true},75)else({s.oR with down:=true},75))
 else if s.ga=1 then(s.oR,74)else({s.oR with files:=files,used:=u},0)
theorem be.ok.oR{s:be}(h:s.ok):s.oR.ok:=⟨h.nd,h.vX,h.le,h.cap,aj (Nat.sub_le _ _) h.fa,aj (Nat.sub_le _ _) h.ba,h.last,h.name⟩
theorem be.ok.down{s:be}(h:s.ok)(d:Bool):({s with down:=d}:be).ok:=⟨h.nd,h.vX,h.le,h.cap,h.fa,h.ba,h.last,h.name⟩
theorem be.ok.gZ{s:be}(h:s.ok){u:Nat}(h2:({s with files:=files,used:=u}:be).ok):(s.gZ files u).1.ok:=by
 unfold be.gZ;have h3:({s.oR with files:=files,used:=u}:be).ok:=⟨h2.nd,h2.vX,h2.le,h2.cap,aj (Nat.sub_le _ _) h.fa,aj (Nat.sub_le _ _) h.ba,h2.last,h2.name⟩;split
 ·split
  ·exact h3.down true
  ·exact h.oR.down true
 ·split
  ·exact h.oR
  ·exact h3
theorem aN.fZ{D M:Nat}{s:be}(dp:s.ok){S:az}(hS:aN [S] [FT M s.files]):aN [bx D 74 ((eA s bU).cs M),S] [j7 D s]:=by
 refine aN.trans ?_ (gU (f:=λq:Nat×Int=>[pu s.ok,bx D 74 ((eA s q.2).cs q.1),FT q.1 s.files]) (M,bU) []);exact(aN.cons _ hS).trans (dY dp _)
theorem sQ(s:be)(bU:Int)(fd:Nat)[CF ab fd](cap:List Value)(S S':az)(files:List (Bs×bF))(u:Nat)(dp:s.ok)(hok':({s with files:=files,used:=u}:be).ok)(hS:aN [S] [FT M s.files])(RJ:aN [S'] [FT M files])(Fy:TR ab G fd cap.toArray [bx D 74 (DH.cs M (wP (eA s bU))),S] (cb λv B=>v=.tuple #[]/\B=[bx D 74 (DH.cs M {wP (eA s bU)with used:=u}),S'])):
 TR ab G 188 #[au D,.func (.func fd) #[] cap.toArray] [bx D 74 ((eA s bU).cs M),S] (cb λv B=>v=.int .i64 (s.gZ files u).2/\B=[j7 D (s.gZ files u).1]):=by
 refine(V8 G D M (eA s bU) fd cap S S' u dp.fa dp.ba Fy).dH (aN.refl _) ?_
 rintro e B hB
 cases e with
 |panicked ch=>exact hB.elim
 |outgrown=>exact hB.elim
 |returned v=>
  obtain⟨rfl,rfl⟩:=hB;have h4:=dp.gZ hok';unfold af5 af6;unfold be.gZ at h4 ⊢;by_cases h1:s.ep=1
  ·rw[if_pos h1]at h4 ⊢;rw[if_pos (show(eA s bU).ep=1 from h1),if_pos (show(eA s bU).ep=1 from h1)];by_cases h2:s.done=true
   ·rw[if_pos h2]at h4 ⊢;rw[if_pos (show(eA s bU).done=true from h2)];exact⟨_,⟨U,U⟩,aN.fZ (s:={s.oR with files:=files,used:=u,down:=true}) (bU:=dV.wrap (bU+1)) h4 RJ⟩
   exact ad1
  ·rw[if_neg h1]at h4 ⊢;rw[if_neg (show ¬(eA s bU).ep=1 from h1),if_neg (show ¬(eA s bU).ep=1 from h1)];by_cases h2:s.ga=1
   ·exact aF4
   ·rw[if_neg h2]at h4 ⊢;rw[if_neg (show ¬(eA s bU).ga=1 from h2),if_neg (show ¬(eA s bU).ga=1 from h2)];exact⟨_,⟨U,U⟩,aN.fZ (s:={s.oR with files:=files,used:=u}) (bU:=dV.wrap (bU+1)) h4 RJ⟩
theorem X.fZ{s:be}[hf:FK Hs j7 D s F](h:∀(M:Nat) (bU:Int) (fs:oQ),s.ok->nu fs=s.files->X ab b β cc k E (bx D 74 ((eA s bU).cs M)::mp ao M (dQ fs)::cV (fs.map fA)::F) R):X ab b β cc k E Hs R:=
 jo λw hs=>by
  obtain⟨⟨M,bU⟩,h1⟩:=iX (hs.cd hf.out);obtain⟨dp,h2⟩:=ln h1;have h3:=h2.cd (cQ _ _ _);obtain⟨fs,h4⟩:=iX h3;obtain⟨h5,h6⟩:=ln h4;refine⟨_,?_,h M bU fs dp h5⟩;exact h6.cd (di (by
   refine List.Perm.trans (fS _ (eu _ _ _)) (eu _ _ _)))
theorem jq{M:Nat}{fs:oQ}(h:nu fs=files)(F:List az):aN (mp ao M (dQ fs)::cV (fs.map fA)::F) (FT M files::F):=
 (dY h _).trans (gU (f:=λfs:oQ=>[pu (nu fs=files),mp ao M (dQ fs),cV (fs.map fA)]) fs F)
theorem pZ{fs:oQ}(h:kq fs name=none):name∉fs.map (·.1):=by
 grind [kq,Option.map_eq_none_iff]
theorem jR{name:Bs}{x:Nat×bF}:∀{fs:oQ},kq fs name=some x->∃pre post,fs=pre++(name,x)::post/\name∉pre.map (·.1)
 |[],h=>by cases h
 |y::r,h=>by
  unfold kq at h;rw[List.find?_cons]at h;by_cases hy:y.1=name
  ·simp only[hy,decide_true,bH,fF]at h;exact⟨[],r,by grind,by simp⟩
  ·simp only[hy,decide_false]at h
   obtain⟨pre,post,h1,h2⟩:=jR (fs:=r) (by unfold kq;exact h)
   grind
theorem PU(pre post:oQ)(x:Bs×Nat×bF):((pre++x::post).map fA).Perm (fA x::(pre++post).map fA):=by
 simp_all
theorem A6(pre post:oQ)(name:Bs)(fb:Nat)(f:bF)[hf:FP Hs (cV ((pre++(name,fb,f)::post).map fA)) F](h:∀a c,X ab b β cc k E (bx fb 78 [.slice a f.data.length c,.int .i64 f.last]::own 5 1 a f.data.length c (f.data.map fO)::cV ((pre++post).map fA)::F) R):X ab b β cc k E Hs R:=
 jo λw hs=>by
  have h1:=(hs.cd hf.out).cd (gG _ F)
  have h2:=h1.cd (iQ (di (PU pre post (name,fb,f))) F)
  have h3:=h2.cd (aN.cons (fA (name,fb,f)) (gp ((pre++post).map fA) F))
  obtain⟨⟨a,c⟩,h4⟩:=iX h3
  grind
theorem nS{pre post:oQ}{name:Bs}{fb:Nat}{f:bF}{a:Option Addr}{c:Nat}(F:List az):
 aN (bx fb 78 [.slice a f.data.length c,.int .i64 f.last]::own 5 1 a f.data.length c (f.data.map fO)::cV ((pre++post).map fA)::F) (cV ((pre++(name,fb,f)::post).map fA)::F):=by
 have h1:=gU (f:=λq:Option Addr×Nat=>[bx fb 78 [.slice q.1 f.data.length q.2,.int .i64 f.last],own 5 1 q.1 f.data.length q.2 (f.data.map fO)]) (a,c) (cV ((pre++post).map fA)::F)
 refine aN.trans h1 ?_
 refine(aN.cons (fA (name,fb,f)) (gG ((pre++post).map fA) F)).trans ?_
 refine aN.trans ?_ (gp _ F)
 exact iQ (di (PU pre post (name,fb,f)).symm) F
def nv(l:List (Bs×bF))(name:Bs)(f:bF):List (Bs×bF):=l.map λx=>if x.1=name then(x.1,f)else x
def jE(l:List (Bs×bF))(name:Bs):Option bF:=(l.find? (·.1=name)).map (·.2)
theorem uI(fs:oQ)(name:Bs):(kq fs name).map (·.2)=jE (nu fs) name:=by
 unfold kq jE nu;rw[List.find?_map];have e:((λx:Bs×bF=>decide (x.1=name))∘λx:Bs×Nat×bF=>(x.1,x.2.2))=λx=>decide (x.1=name):=by funext x;rfl
 exact aK7
theorem Dq{pre post:List (Bs×bF)}{f':bF}(h:((pre++(name,f)::post).map (·.1)).Nodup):nv (pre++(name,f)::post) name f'=pre++(name,f')::post:=by
 rw[cq,aK]at h
 obtain⟨h1,h2,h3⟩:=eP.1 h
 obtain⟨h4,h5⟩:=gA.1 h2
 unfold nv
 rw[cq,aK,if_pos U]
 have e1:∀(l:List (Bs×bF)),name∉l.map (·.1)->(l.map λx=>if x.1=name then(x.1,f')else x)=l:=by
  intro l hl
  conv=>rhs;rw[<-List.map_id l]
  grind [bQ]
 grind
def be.find(s:be)(name:Bs)(right:Bool):Option bF×Int:=
 if s.down=true then(none,75)else if ¬(dy name=true/\right=true)then(none,70)else
 match jE s.files name with
 |none=>(none,71)
 |some x=>(some x,0)
theorem oS{s:be}{fs:oQ}(h:nu fs=s.files)(bU:Int)(name:Bs)(right:Bool):s.find name right=((l6 (eA s bU) fs name right).1.map (·.2),(l6 (eA s bU) fs name right).2):=by
 grind [be.find,l6,uI,eA]
theorem ej(e sz:Nat)(F:List az):aN F (own e sz none 0 0 []::F):=λ_ o hs=>⟨fL,o,cR _,cJ _,.refl _,⟨by simp,.inl ⟨U,U⟩⟩,hs⟩
theorem Gd{fb:Nat}{a:Option Addr}{c:Nat}(F:List az):aN (bx fb 78 [.slice a f.data.length c,.int .i64 f.last]::own 5 1 a f.data.length c (f.data.map fO)::F) (aB6 fb f::F):=
 gU (f:=λq:Option Addr×Nat=>[bx fb 78 [.slice q.1 f.data.length q.2,.int .i64 f.last],own 5 1 q.1 f.data.length q.2 (f.data.map fO)]) (a,c) F
theorem Jn(fs:oQ)(x:Bs×Nat×bF)(F:List az):aN (fA x::cV (fs.map fA)::F) (cV ((fs++[x]).map fA)::F):=by
 refine(aN.cons _ (gG _ F)).trans (aN.trans ?_ (gp _ F));show aN ((fA x::fs.map fA)++F) _;exact by8
theorem sR{h:DH}{fs:oQ}(h0:(l6 h fs name right).2=0):dy name=true/\right=true/\∃x,(l6 h fs name right).1=some x/\kq fs name=some x:=by
 grind [l6]
theorem V9{h:DH}{fs:oQ}(h0:(l6 h fs name right).2=71):dy name=true/\kq fs name=none:=by
 grind [l6]
@[reducible] def nf(name:Bs)(fb:Nat):Bs×Nat×bF:=(name,fb,⟨[],0⟩)
def be.create(s:be)(name:Bs):be×Int:=
 if(s.find name true).2=0 then(s,72)else if(s.find name true).2=71 then s.gZ (s.files++[(name,(⟨[],0⟩:bF))]) s.used else(s,(s.find name true).2)
theorem V'{fs:oQ}(h:kq fs name=none)(fb:Nat):gJ (dQ fs) name (au fb)=dQ (fs++[nf name fb]):=by
 have h1:=pZ h
 grind [lR]
theorem Nt(t2 t3:Nat)(h:DH)(fs:oQ)(name:Bs)(hn:kq fs name=none):
 TR ab G 400 #[au t2,au t3] [bx D 74 (h.cs M),cV [bx t2 28 [au D],bx t3 9 [ao name],mp ao M (dQ fs),cV (fs.map fA)]]
  (cb λv B=>v=.tuple #[]/\B=[bx D 74 (h.cs M),ex λfb:Nat=>[mp ao M (dQ (fs++[nf name fb])),cV ((fs++[nf name fb]).map fA)]]):=by
 refine aW U λb β hb hG=>?_
 refine kZ [bx t2 28 [au D],bx t3 9 [ao name],mp ao M (dQ fs),cV (fs.map fA)] ?_
 dsimp only[ae,ai,ah]
 show X _ _ _ _ _ _ _ _
 refine xS ?_
 refine eR 6 [0,1,4] ?_
 refine xL [0,1,2,3,4,5] ?_
 refine xP ?_
 intro fb
 refine qi name bW U U U U ?_
 rw[V' hn]
 refine xS ?_
 refine X.fin hb (.tmps U) ⟨_,⟨U,U⟩,?_⟩
 refine aN.trans (ay (A:=[bx fb 78 [.slice none 0 0,.int .i64 0],bx D 74 (h.cs M),mp ao M (dQ (fs++[nf name fb])),cV (fs.map fA)])) ?_
 refine aN.trans (aN.cons _ (ej 5 1 _)) ?_
 refine aN.trans (Gd (f:=⟨[],0⟩) _) ?_
 refine aN.trans (cQ _ _ _) (aN.cons _ ?_)
 refine aN.trans (cQ _ _ _) ?_
 refine aN.trans (aN.cons _ (Jn fs (nf name fb) [])) ?_
 exact gU (f:=λfb:Nat=>[mp ao M (dQ (fs++[nf name fb])),cV ((fs++[nf name fb]).map fA)]) fb []
theorem UB{M:Nat}{ι:Type}(g:ι->oQ)(h:∀i,nu (g i)=files):aN [ex λi:ι=>[mp ao M (dQ (g i)),cV ((g i).map fA)]] [FT M files]:=by
 rintro r o ⟨o1,o2,hd,h1,h2,⟨i,hi⟩,hs⟩;have h3:=jq (M:=M) (h i) [] r o1 hi;exact js _ (.refl _) h1 h3
theorem be.ok.add{s:be}(h:s.ok)(hn:name∉s.files.map (·.1))(hname:dy name=true):({s with files:=s.files++[(name,⟨[],0⟩)],used:=s.used}:be).ok:=by
 refine⟨?_,?_,h.le,h.cap,h.fa,h.ba,?_,?_⟩
 ·simp only[cq,aK,ie]
  rw[eP]
  refine⟨h.nd,by simp,?_⟩
  grind
 ·have:=h.vX
  grind [gf]
 ·intro x hx
  rcases cM.1 hx with hx|hx
  ·exact h.last x hx
  grind
 ·intro x hx
  rcases cM.1 hx with hx|hx
  ·exact h.name x hx
  grind
theorem rV(fs:oQ):(nu fs).map (·.1)=fs.map (·.1):=by unfold nu;rw[cz];rfl
theorem RM(s:be)(name:Bs):
 TR ab G 309 #[au D,ao name] [j7 D s] (cb λv B=>v=.int .i64 (s.create name).2/\B=[j7 D (s.create name).1]):=by
 refine aW U λb β hb hG=>?_
 refine X.fZ D λM bU fs dp j6=>?_
 refine xP ?_
 intro t2
 refine xP ?_
 intro t3
 refine xI (qY G D M (eA s bU) fs name true) ?_
 have pN:=oS j6 bU name true
 have h0:=sR (h:=eA s bU) (fs:=fs) (name:=name) (right:=true)
 have h71:=V9 (h:=eA s bU) (fs:=fs) (name:=name) (right:=true)
 dsimp only[ae,ai,ah]
 generalize l6 (eA s bU) fs name true=r at*
 obtain⟨p,e⟩:=r
 dsimp only at pN h0 h71 ⊢
 have e0:s.create name=if e=0 then(s,72)else if e=71 then s.gZ (s.files++[(name,(⟨[],0⟩:bF))]) s.used else(s,e):=by
  unfold be.create;rw[pN]
 have close:∀{Hs F:List az},ES Hs [bx D 74 ((eA s bU).cs M),mp ao M (dQ fs),cV (fs.map fA)] F->aN Hs [j7 D s]:=by
  intro Hs F hE;refine(hE.out.trans (fN _ F)).trans ?_;exact(aN.cons _ (jq j6 [])).trans (aN.fZ dp (aN.refl _))
 refine xB ?_ ?_<;>intro h1
 ·rw[if_pos bE]at e0;exact aM1
 ·rw[if_neg bE]at e0;refine xB ?_ ?_<;>intro h2
  ·have h2:e=71:=by grind
   rw[if_pos h2]at e0;have hn:=h71 h2;have hnn:=pZ hn.2;refine xS ?_;refine jc [bx t2 28 [au D],bx t3 9 [ao name],mp ao M (dQ fs),cV (fs.map fA)] ?_;refine bw (sQ G D M s bU 400 [au t2,au t3] (cV [bx t2 28 [au D],bx t3 9 [ao name],mp ao M (dQ fs),cV (fs.map fA)]) (ex λfb:Nat=>[mp ao M (dQ (fs++[nf name fb])),cV ((fs++[nf name fb]).map fA)]) (s.files++[(name,(⟨[],0⟩:bF))]) s.used dp (dp.add aX1 hn.1) ?_ ?_ (Nt G D M t2 t3 _ fs name hn.2)) ?_
   ·exact bg5
   ·exact UB (λfb=>fs++[nf name fb]) λfb=>by grind [nu]
   exact aH0
  ·rw[if_neg bE]at e0;exact aM1
theorem Dr(n c:Nat)(xs:Bs)(hn:xs.length=n)(hs:n<=1000000000000)(h0:a=none->n=0/\c=0):
 TR ab G 24 #[.slice a n c] [bV RB 1 a xs] (cb (ad5 xs)):=by
 refine cg U λb β hb hG=>?_
 cases a with
 |none=>
  obtain⟨rfl,rfl⟩:=h0 U;have:xs=[]:=bE;subst this;refine xS ?_;exact X.ret hb (.tmps U) ⟨_,⟨none,0,U,U⟩,(aN.nil _).trans (ej 5 1 [])⟩
 |some a=>
  refine xS ?_;refine Mw U U λbl=>xS ?_;refine iw (zs:=[]) U U U U hn bB λa8 c8=>?_;rw[ai];refine xS ?_;exact bO hb (.tmps U) ⟨a8,c8,U,U⟩
theorem Gg:∀v B,ad5 xs v B->rP B:=by
 rintro v B ⟨a,c,rfl,rfl⟩;exact inferInstance
def be.append(s:be)(name:Bs)(ys:Bs):be×Int:=
 match s.find name true with
 |(some f,e)=>if e≠0 then(s,e)else if s.cap - s.used<ys.length then(s,73)else s.gZ (nv s.files name ⟨f.data++ys,f.last⟩) (s.used+ys.length)
 |(none,e)=>(s,e)
theorem rW(a b:List (Bs×bF)):gf (a++b)=gf a+gf b:=by simp[gf]
theorem lT(x:Bs×bF)(b:List (Bs×bF)):gf (x::b)=x.2.data.length+gf b:=by simp[gf]
theorem nZ(pre post:oQ)(name:Bs)(fb:Nat)(f:bF):nu (pre++(name,fb,f)::post)=nu pre++(name,f)::nu post:=by simp[nu]
theorem Ds(pre post:oQ)(name:Bs)(fb:Nat)(f f':bF):dQ (pre++(name,fb,f)::post)=dQ (pre++(name,fb,f')::post):=by simp[dQ]
theorem Nu(b7 b5 b3:Nat)(h:DH)(pre post:oQ)(name:Bs)(fb:Nat)(f:bF)(a2:Option Addr)(m c2:Nat)(ys:Bs)(hm:ys.length=m)(h1:f.data.length<=4194304)(h2:m<=4194304)(h3:h.used<=4194304):
 TR ab G 310 #[au b7,au b5,au b3] [bx D 74 (h.cs M),cV [bx b7 75 [au fb],bx b5 55 [.slice a2 m c2],bx b3 28 [au D],bV RB 1 a2 ys,mp ao M (dQ (pre++(name,fb,f)::post)),cV ((pre++(name,fb,f)::post).map fA)]]
  (cb λv B=>v=.tuple #[]/\B=[bx D 74 (DH.cs M {h with used:=h.used+m}),cV [mp ao M (dQ (pre++(name,fb,⟨f.data++ys,f.last⟩)::post)),cV ((pre++(name,fb,⟨f.data++ys,f.last⟩)::post).map fA)]]):=by
 refine jr U λb β hb hG=>?_
 refine kZ [bx b7 75 [au fb],bx b5 55 [.slice a2 m c2],bx b3 28 [au D],bV RB 1 a2 ys,mp ao M (dQ (pre++(name,fb,f)::post)),cV ((pre++(name,fb,f)::post).map fA)] ?_
 dsimp only[ae,ai,ah]
 refine A6 pre post name fb f λa c=>xS ?_
 refine eR 6 [3,0,4] ?_
 refine xL [0,1,2,3,4,5] ?_
 refine xS ?_
 refine iw U U U U hm av λa8 c8=>xS ?_
 refine eR 7 [5,8,4] ?_
 refine xL [0,1,2,3,4,5,6] ?_
 refine xS ?_
 rw[Ds pre post name fb f ⟨f.data++ys,f.last⟩,show((h.used:Int)+(m:Int))=((h.used+m:Nat):Int)from by simp]
 refine X.fin hb (.tmps U) ⟨_,⟨U,U⟩,?_⟩
 refine aN.trans (ay (A:=[bx D 74 (DH.cs M {h with used:=h.used+m}),mp ao M (dQ (pre++(name,fb,⟨f.data++ys,f.last⟩)::post)),bx fb 78 [.slice a8 (f.data++ys).length c8,.int .i64 f.last],own 5 1 a8 (f.data++ys).length c8 ((f.data++ys).map fO),cV ((pre++post).map fA)])) ?_
 refine aN.cons _ ?_
 refine aN.trans (aN.cons _ (nS (pre:=pre) (post:=post) (name:=name) (f:=⟨f.data++ys,f.last⟩) [])) ?_
 exact gH _
theorem be.ok.set{s:be}(h:s.ok){A B:List (Bs×bF)}{f':bF}(hf:s.files=A++(name,f)::B)(u:Nat)(hu:u+f.data.length=s.used+f'.data.length)(hle:u<=s.cap)(hl:f'.last<=f'.data.length):
 ({s with files:=A++(name,f')::B,used:=u}:be).ok:=by
 have h1:=h.nd
 have h2:=h.vX
 have h3:=h.last
 have h4:=h.name
 rw[hf]at h1 h2 h3 h4
 refine⟨?_,?_,hle,h.cap,h.fa,h.ba,?_,?_⟩
 ·grind
 ·grind [rW,lT]
 ·intro x hx
  grind
 ·intro x hx
  rcases cM.1 hx with hx|hx
  ·grind
  ·rcases bK.1 hx with rfl|hx
   ·exact h4 (name,f) nH
   grind
theorem be.ok.len{s:be}(h:s.ok){A B:List (Bs×bF)}(hf:s.files=A++(name,f)::B):f.data.length<=s.used/\f.last<=f.data.length/\s.used<=4194304:=by
 have h2:=h.vX
 rw[hf,rW,lT]at h2
 have h3:=h.last (name,f) (by rw[hf];simp)
 have:=h.le
 have:=h.cap
 grind
theorem qv{D M:Nat}{s:be}{fs:oQ}(dp:s.ok)(j6:nu fs=s.files)[hE:ES Hs [bx D 74 ((eA s bU).cs M),mp ao M (dQ fs),cV (fs.map fA)] F]:aN Hs [j7 D s]:=
 (hE.out.trans (fN _ F)).trans ((aN.cons _ (jq j6 [])).trans (aN.fZ dp (aN.refl _)))
theorem GB{D M:Nat}{s:be}{fs:oQ}(dp:s.ok)(j6:nu fs=s.files){p:az}[hE:ES Hs [bx D 74 ((eA s bU).cs M),mp ao M (dQ fs),cV (fs.map fA),p] F]:aN Hs [j7 D s,p]:=by
 refine(hE.out.trans (fN _ F)).trans ?_;refine(aN.cons _ (jq j6 [p])).trans ?_;exact iQ (aN.fZ dp (aN.refl _)) [p]
theorem RO(s:be)(name:Bs)(a2:Option Addr)(m c2:Nat)(ys:Bs)(hm:ys.length=m)(Ib:m<=1000000000000):
 TR ab G 207 #[au D,ao name,.slice a2 m c2] [j7 D s,bV RB 1 a2 ys] (cb λv B=>v=.int .i64 (s.append name ys).2/\B=[j7 D (s.append name ys).1,bV RB 1 a2 ys]):=by
 refine jr U λb β hb hG=>?_
 refine X.fZ D λM bU fs dp j6=>?_
 refine xP ?_
 intro b3
 refine xP ?_
 intro b5
 refine xI (qY G D M (eA s bU) fs name true) ?_
 have pN:=oS j6 bU name true
 have h0:=sR (h:=eA s bU) (fs:=fs) (name:=name) (right:=true)
 dsimp only[ae,ai,ah]
 generalize l6 (eA s bU) fs name true=r at*
 obtain⟨p,e⟩:=r
 dsimp only at pN h0 ⊢
 have rn:=dp.cap
 have hle:=dp.le
 have hcap':(eA s bU).cap<=4194304:=rn
 have hus':(eA s bU).used<=4194304:=aj hle rn
 refine xA ?_
 intro b7
 refine xB ?_ ?_<;>intro h1
 ·have e0:s.append name ys=(s,e):=by
   have h1:e≠0:=by simpa using h1
   unfold be.append;rw[pN]
   cases p
   ·rfl
   ·exact if_pos h1
  refine xS ?_
  exact X.ret hb (.tmps U) ⟨_,⟨by rw[e0];rfl,by rw[e0]⟩,GB (M:=M) (bU:=bU) dp j6⟩
 ·have h1:e=0:=by simpa using h1
  obtain⟨wI,_,⟨fb,f⟩,hp,hd⟩:=h0 h1
  subst hp
  subst h1
  obtain⟨pre,post,rfl,_⟩:=jR hd
  have tY:=j6
  rw[nZ]at tY
  have hlen:=dp.len tY.symm
  have e1:s.append name ys=if s.cap - s.used<ys.length then(s,73)else s.gZ (nv s.files name ⟨f.data++ys,f.last⟩) (s.used+ys.length):=by
   unfold be.append;rw[pN];rfl
  dsimp only[pv,bH]
  refine xS ?_
  refine eR 13 [3,4,1] ?_
  refine xL [0,1,2,3,4,5,6,7,8,9,10,11,12] ?_
  refine xB ?_ ?_<;>intro h2
  ·have h2:s.cap - s.used<ys.length:=by simp[eA]at h2;omega
   rw[if_pos h2]at e1
   refine xS ?_
   exact X.ret hb (.tmps U) ⟨_,⟨by rw[e1];rfl,by rw[e1]⟩,GB (M:=M) (bU:=bU) dp j6⟩
  ·have h2:¬s.cap - s.used<ys.length:=by simp[eA]at h2;omega
   rw[if_neg h2]at e1
   refine xS ?_
   refine HB a2 ?_
   refine jc [bx b7 75 [au fb],bx b5 55 [.slice a2 m c2],bx b3 28 [au D],bV RB 1 a2 ys,mp ao M (dQ (pre++(name,fb,f)::post)),cV ((pre++(name,fb,f)::post).map fA)] ?_
   have iz:nv s.files name ⟨f.data++ys,f.last⟩=nu pre++(name,⟨f.data++ys,f.last⟩)::nu post:=by
    rw[<-tY];exact Dq (by rw[tY];exact dp.nd)
   have tZ:({s with files:=nv s.files name ⟨f.data++ys,f.last⟩,used:=s.used+ys.length}:be).ok:=by
    rw[iz];exact dp.set tY.symm _ (by simp;omega) (by omega) (by simp;omega)
   refine bw (sQ G D M s bU 310 [au b7,au b5,au b3] _ (cV [mp ao M (dQ (pre++(name,fb,⟨f.data++ys,f.last⟩)::post)),cV ((pre++(name,fb,⟨f.data++ys,f.last⟩)::post).map fA)]) (nv s.files name ⟨f.data++ys,f.last⟩) (s.used+ys.length) dp tZ ?_ ?_ (by rw[hm];exact Nu G D M b7 b5 b3 _ pre post name fb f a2 m c2 ys hm (by omega) (by omega) (by show s.used<=_;omega))) ?_
   ·refine(eW _).trans ((aN.drop _ _).trans ((aN.drop _ _).trans ((aN.drop _ _).trans ((aN.drop _ _).trans (jq j6 [])))))
   ·exact(eW _).trans (jq (by rw[iz];simp[nu]) [])
   ·rintro v B ⟨rfl,rfl⟩
    rw[<-e1]
    refine xD ?_
    exact xR
def be.sync(s:be)(name:Bs):be×Int:=
 match s.find name true with
 |(some f,e)=>if e≠0 then(s,e)else s.gZ (nv s.files name ⟨f.data,f.data.length⟩) s.used
 |(none,e)=>(s,e)
theorem Wc(b5:Nat)(h:DH)(pre post:oQ)(name:Bs)(fb:Nat)(f:bF):
 TR ab G 189 #[au b5] [bx D 74 (h.cs M),cV [bx b5 75 [au fb],mp ao M (dQ (pre++(name,fb,f)::post)),cV ((pre++(name,fb,f)::post).map fA)]]
  (cb λv B=>v=.tuple #[]/\B=[bx D 74 (DH.cs M {h with used:=h.used}),cV [mp ao M (dQ (pre++(name,fb,⟨f.data,f.data.length⟩)::post)),cV ((pre++(name,fb,⟨f.data,f.data.length⟩)::post).map fA)]]):=by
 refine cg U λb β hb hG=>?_
 refine kZ [bx b5 75 [au fb],mp ao M (dQ (pre++(name,fb,f)::post)),cV ((pre++(name,fb,f)::post).map fA)] ?_
 dsimp only[ae,ai,ah]
 refine A6 pre post name fb f λa c=>xS ?_
 refine eR 6 [3,0] ?_
 refine xL [0,1,2,3,4,5] ?_
 refine xS ?_
 rw[Ds pre post name fb f ⟨f.data,f.data.length⟩]
 refine X.fin hb (.tmps U) ⟨_,⟨U,U⟩,?_⟩
 refine aN.trans (ay (A:=[bx D 74 (DH.cs M {h with used:=h.used}),mp ao M (dQ (pre++(name,fb,⟨f.data,f.data.length⟩)::post)),bx fb 78 [.slice a f.data.length c,.int .i64 f.data.length],own 5 1 a f.data.length c (f.data.map fO),cV ((pre++post).map fA)])) ?_
 refine aN.cons _ ?_
 refine aN.trans (aN.cons _ (nS (pre:=pre) (post:=post) (name:=name) (f:=⟨f.data,f.data.length⟩) [])) ?_
 exact gH _
theorem af8(s:be)(name:Bs):
 TR ab G 127 #[au D,ao name] [j7 D s] (cb λv B=>v=.int .i64 (s.sync name).2/\B=[j7 D (s.sync name).1]):=by
 refine aW U λb β hb hG=>?_
 refine X.fZ D λM bU fs dp j6=>?_
 refine xI (qY G D M (eA s bU) fs name true) ?_
 have pN:=oS j6 bU name true
 have h0:=sR (h:=eA s bU) (fs:=fs) (name:=name) (right:=true)
 dsimp only[ae,ai,ah]
 generalize l6 (eA s bU) fs name true=r at*
 obtain⟨p,e⟩:=r
 dsimp only at pN h0 ⊢
 refine xA ?_
 intro b5
 refine xB ?_ ?_<;>intro h1
 ·have e0:s.sync name=(s,e):=by
   have h1:e≠0:=by simpa using h1
   unfold be.sync;rw[pN]
   cases p
   ·rfl
   ·exact if_pos h1
  refine xS ?_
  exact X.ret hb (.tmps U) ⟨_,⟨by rw[e0];rfl,by rw[e0]⟩,qv (M:=M) (bU:=bU) dp j6⟩
 ·have h1:e=0:=by simpa using h1
  obtain⟨wI,_,⟨fb,f⟩,hp,hd⟩:=h0 h1
  subst hp
  subst h1
  obtain⟨pre,post,rfl,_⟩:=jR hd
  have tY:=j6
  rw[nZ]at tY
  have hlen:=dp.len tY.symm
  have e1:s.sync name=s.gZ (nv s.files name ⟨f.data,f.data.length⟩) s.used:=by
   unfold be.sync;rw[pN];rfl
  dsimp only[pv,bH]
  refine xS ?_
  refine jc [bx b5 75 [au fb],mp ao M (dQ (pre++(name,fb,f)::post)),cV ((pre++(name,fb,f)::post).map fA)] ?_
  have iz:nv s.files name ⟨f.data,f.data.length⟩=nu pre++(name,⟨f.data,f.data.length⟩)::nu post:=by
   rw[<-tY];exact Dq (by rw[tY];exact dp.nd)
  have tZ:({s with files:=nv s.files name ⟨f.data,f.data.length⟩,used:=s.used}:be).ok:=by
   rw[iz];exact dp.set tY.symm _ (by simp) dp.le (by simp)
  refine bw (sQ G D M s bU 189 [au b5] _ (cV [mp ao M (dQ (pre++(name,fb,⟨f.data,f.data.length⟩)::post)),cV ((pre++(name,fb,⟨f.data,f.data.length⟩)::post).map fA)]) (nv s.files name ⟨f.data,f.data.length⟩) s.used dp tZ ?_ ?_ (Wc G D M b5 _ pre post name fb f)) ?_
  ·refine(eW _).trans ((aN.drop _ _).trans (jq j6 []))
  ·exact(eW _).trans (jq (by rw[iz];simp[nu]) [])
  ·rintro v B ⟨rfl,rfl⟩
   rw[<-e1]
   refine xD ?_
   exact xR
def ku(l:List (Bs×bF))(name:Bs):List (Bs×bF):=l.filter λx=> !(x.1==name)
def n4(l:oQ)(name:Bs):oQ:=l.filter λx=> !(x.1==name)
theorem yH(fs:oQ)(name:Bs):nu (n4 fs name)=ku (nu fs) name:=by
 unfold nu n4 ku;rw[List.filter_map];rfl
theorem vx{fs:oQ}(h:name∉fs.map (·.1)):n4 fs name=fs:=by
 grind [n4,List.filter_eq_self]
theorem wQ{pre post:oQ}{y:Nat×bF}(h:((pre++(name,y)::post).map (·.1)).Nodup):n4 (pre++(name,y)::post) name=pre++post:=by
 rw[cq,aK]at h;obtain⟨h1,h2,h3⟩:=eP.1 h;obtain⟨h4,h5⟩:=gA.1 h2;have e1:=vx (fs:=pre) (name:=name) (λhh=>h3 name hh name (List.mem_cons_self ..) U);have e2:=vx (fs:=post) (name:=name) h4;unfold n4 at e1 e2 ⊢;rw[List.filter_append,List.filter_cons];simp only[beq_self_eq_true,Bool.not_true,bY,if_false];rw[e1,e2]
theorem GC(fs:oQ)(name:Bs)(h:(fs.map (·.1)).Nodup):tW (dQ fs) name=dQ (n4 fs name):=by
 cases hd:kq fs name with
 |none=>
  grind [pZ,vx,tW]
 |some y=>
  obtain⟨pre,post,rfl,hn⟩:=jR hd;rw[wQ h];have h2:(dQ (pre++(name,y)::post)).findIdx? (·.1=name)=some pre.length:=by
   grind
  unfold tW;rw[h2];simp only[dQ,cq,aK];rw[List.eraseIdx_append_of_length_le nH];simp
def wR(o:Option (Nat×bF)):Nat:=match o with|none=>0|some x=>x.2.data.length
theorem PW(fs:oQ)(name:Bs)(jd:(fs.map (·.1)).Nodup)(hu:wR (kq fs name)<=h.used)(hu2:h.used<=4194304):
 TR ab G 372 #[au D,ao name] [bx D 74 (h.cs M),mp ao M (dQ fs),cV (fs.map fA)] (cb λv B=>v=.tuple #[]/\B=[bx D 74 (DH.cs M {h with used:=h.used - wR (kq fs name)}),mp ao M (dQ (n4 fs name)),cV ((n4 fs name).map fA)]):=by
 refine aW U λb β hb hG=>xS ?_
 refine rJ name U U U U ?_
 rw[vw]
 cases hd:kq fs name with
 |none=>
  rw[vx (pZ hd)];dsimp only[pv,Option.map_none,wR];exact xF
 |some y=>
  rw[hd]at hu;obtain⟨pre,post,rfl,hn⟩:=jR hd;obtain⟨fb,f⟩:=y;have Mn:=GC _ name jd;rw[wQ jd]at Mn ⊢;dsimp only[pv,bH,wR]at hu ⊢;refine A6 pre post name fb f λa c=>xS ?_;refine eR 10 [3,0] ?_;refine xL [0,1,2,3,4,5,6,7,8,9] ?_;refine xS ?_;refine CK name bW U U U ?_;rw[Mn,show((h.used:Int) - (f.data.length:Int))=((h.used - f.data.length:Nat):Int)from by omega];exact xF
end
section
variable(fs:oQ)(l:List (Bs×bF))(G:bZ)(D M:Nat)(s:be)(from_ bD5 name:Bs)
def Nv(o:Option bF):Nat:=match o with|none=>0|some f=>f.data.length
theorem RP{l:List (Bs×bF)}{name:Bs}(h:name∉l.map (·.1)):ku l name=l:=by
 grind [ku,List.filter_eq_self]
theorem p9:∀(l:List (Bs×bF)) (name:Bs),(l.map (·.1)).Nodup->gf (ku l name)+Nv (jE l name)=gf l
 |[],_,_=>rfl
 |x::r,name,h=>by
  rw[aK,gA]at h;have ih:=p9 r name h.2;unfold ku jE at ih ⊢;by_cases hx:x.1=name
  ·rw[List.filter_cons,List.find?_cons];simp only[hx,beq_self_eq_true,Bool.not_true,bY,if_false,decide_true,bH,Nv];have:=RP (l:=r) (name:=name) (by rw[<-hx];exact h.1);unfold ku at this;rw[this,lT];omega
  ·rw[List.filter_cons,List.find?_cons];simp only[hx,beq_iff_eq,Bool.not_eq_true',beq_eq_false_iff_ne,ne_eq,not_false_iff,if_true,decide_false];rw[lT,lT];omega
theorem yI:(ku l name).Sublist l:=List.filter_sublist
theorem yJ(h:(l.map (·.1)).Nodup):gf (ku l name)<=gf l:=by have:=p9 l name h;omega
theorem be.ok.del{s:be}(h:s.ok)(name:Bs):({s with files:=ku s.files name,used:=gf (ku s.files name)}:be).ok:=by
 refine⟨h.nd.sublist ((yI _ _).map _),U,?_,h.cap,h.fa,h.ba,λx hx=>h.last x ((yI _ _).subset hx),λx hx=>h.name x ((yI _ _).subset hx)⟩
 have:=yJ s.files name h.nd
 have:=h.vX
 have:=h.le
 grind
theorem Kb:wR (kq fs name)=Nv (jE (nu fs) name):=by
 rw[<-uI];cases kq fs name<;>rfl
def be.remove(s:be)(name:Bs):be×Int:=
 if(s.find name true).2≠0 then(s,(s.find name true).2)else s.gZ (ku s.files name) (gf (ku s.files name))
theorem Nw(t2 t3:Nat)(h:DH)(fs:oQ)(name:Bs)(jd:(fs.map (·.1)).Nodup)(hu:wR (kq fs name)<=h.used)(hu2:h.used<=4194304):
 TR ab G 371 #[au t2,au t3] [bx D 74 (h.cs M),cV [bx t2 28 [au D],bx t3 9 [ao name],mp ao M (dQ fs),cV (fs.map fA)]]
  (cb λv B=>v=.tuple #[]/\B=[bx D 74 (DH.cs M {h with used:=h.used - wR (kq fs name)}),cV [mp ao M (dQ (n4 fs name)),cV ((n4 fs name).map fA)]]):=by
 refine aW U λb β hb hG=>?_
 refine kZ [bx t2 28 [au D],bx t3 9 [ao name],mp ao M (dQ fs),cV (fs.map fA)] (xD ?_)
 refine bw (PW G D M h fs name jd hu hu2) ?_
 rintro v B ⟨rfl,rfl⟩
 refine xD ?_
 refine X.fin hb (.tmps U) ⟨_,⟨U,U⟩,?_⟩
 refine aN.trans (ay (A:=[bx D 74 (DH.cs M {h with used:=h.used - wR (kq fs name)}),mp ao M (dQ (n4 fs name)),cV ((n4 fs name).map fA)])) ?_
 exact aN.cons _ (gH _)
theorem RQ:
 TR ab G 273 #[au D,ao name] [j7 D s] (cb λv B=>v=.int .i64 (s.remove name).2/\B=[j7 D (s.remove name).1]):=by
 refine aW U λb β hb hG=>?_
 refine X.fZ D λM bU fs dp j6=>?_
 refine xP ?_
 intro t2
 refine xP ?_
 intro t3
 refine xI (qY G D M (eA s bU) fs name true) ?_
 have pN:=oS j6 bU name true
 dsimp only[ae,ai,ah]
 generalize l6 (eA s bU) fs name true=r at*
 obtain⟨p,e⟩:=r
 dsimp only at pN ⊢
 have e0:s.remove name=if e≠0 then(s,e)else s.gZ (ku s.files name) (gf (ku s.files name)):=by
  unfold be.remove;rw[pN]
 refine xB ?_ ?_<;>intro h1
 ·rw[if_pos bE]at e0;exact bf4
 ·rw[if_neg bE]at e0;have jd:(fs.map (·.1)).Nodup:=aY2;have gE:=p9 s.files name dp.nd;have Kc:=dp.vX;have hul:wR (kq fs name)=Nv (jE s.files name):=by rw[Kb,j6]
  have rn:=dp.cap;have hle:=dp.le;refine xS ?_;refine jc [bx t2 28 [au D],bx t3 9 [ao name],mp ao M (dQ fs),cV (fs.map fA)] ?_;have wm:=Nw G D M t2 t3 (wP (eA s bU)) fs name jd aV6 VY;rw[show(wP (eA s bU)).used - wR (kq fs name)=gf (ku s.files name)from by show s.used - _=_;omega]at wm;refine bw (sQ G D M s bU 371 [au t2,au t3] _ _ (ku s.files name) (gf (ku s.files name)) dp (dp.del name) ?_ ?_ wm) ?_
  ·exact bg5
  ·exact(eW _).trans (jq (by rw[yH,j6]) [])
  exact aH0
def be.truncate(s:be)(name:Bs)(n:Int):be×Int:=
 match s.find name (decide (0<=n))with
 |(some f,e)=>if e≠0 then(s,e)else if n>f.data.length then(s,70)else s.gZ (nv s.files name ⟨f.data.take n.toNat,min f.last n.toNat⟩) (s.used - (f.data.length - n.toNat))
 |(none,e)=>(s,e)
theorem yK(l:Bs)(n:Nat):(l.map fO).take (n*1)=(l.take n).map fO:=nH
theorem bu6(a b:Nat):(if(b:Int)<(a:Int)then(b:Int)else(a:Int))=((min a b:Nat):Int):=av
theorem RR(b3 b7 b5:Nat)(h:DH)(pre post:oQ)(name:Bs)(fb:Nat)(f:bF)(n:Nat)(hn:n<=f.data.length)(h1:f.data.length<=h.used)(h3:h.used<=4194304)(hl:f.last<=f.data.length):
 TR ab G 374 #[au b3,au b7,au b5] [bx D 74 (h.cs M),cV [bx b3 28 [au D],bx b7 75 [au fb],bx b5 3 [.int .i64 n],mp ao M (dQ (pre++(name,fb,f)::post)),cV ((pre++(name,fb,f)::post).map fA)]]
  (cb λv B=>v=.tuple #[]/\B=[bx D 74 (DH.cs M {h with used:=h.used - (f.data.length - n)}),cV [mp ao M (dQ (pre++(name,fb,⟨f.data.take n,min f.last n⟩)::post)),cV ((pre++(name,fb,⟨f.data.take n,min f.last n⟩)::post).map fA)]]):=by
 refine jr U λb β hb hG=>?_
 refine kZ [bx b3 28 [au D],bx b7 75 [au fb],bx b5 3 [.int .i64 n],mp ao M (dQ (pre++(name,fb,f)::post)),cV ((pre++(name,fb,f)::post).map fA)] ?_
 dsimp only[ae,ai,ah]
 refine A6 pre post name fb f λa c=>xS ?_
 refine eR 12 [3,7,4,0,5] ?_
 refine xL [0,1,2,3,4,5,6,7,8,9,10,11] ?_
 refine xS ?_
 refine eR 7 [5,1,6] ?_
 refine xL [0,1,2,3,4,5,6] ?_
 refine xS ?_
 refine U0 U U U U U U U hn (xS ?_)
 refine eR 7 [5,0,6] ?_
 refine xL [0,1,2,3,4,5,6] ?_
 refine xS ?_
 refine Jl n (a:=a) hn ?_
 rw[yK]
 have hu:=@nS pre post name fb ⟨f.data.take n,min f.last n⟩ a n []
 dsimp only at hu
 rw[show(f.data.take n).length=n from by simp;omega]at hu
 rw[Ds pre post name fb f ⟨f.data.take n,min f.last n⟩,bu6,show((h.used:Int) - ((f.data.length:Int) - (n:Int)))=((h.used - (f.data.length - n):Nat):Int)from by omega]
 refine X.fin hb (.tmps U) ⟨_,⟨U,U⟩,?_⟩
 refine aN.trans (ay (A:=[bx D 74 (DH.cs M {h with used:=h.used - (f.data.length - n)}),mp ao M (dQ (pre++(name,fb,⟨f.data.take n,min f.last n⟩)::post)),bx fb 78 [.slice a n n,.int .i64 (min f.last n:Nat)],own 5 1 a n n ((f.data.take n).map fO),cV ((pre++post).map fA)])) ?_
 refine aN.cons _ ?_
 refine aN.trans (aN.cons _ hu) ?_
 exact gH _
theorem Kd(n:Int):
 TR ab G 279 #[au D,ao name,.int .i64 n] [j7 D s] (cb λv B=>v=.int .i64 (s.truncate name n).2/\B=[j7 D (s.truncate name n).1]):=by
 refine jr U λb β hb hG=>?_
 refine X.fZ D λM bU fs dp j6=>?_
 refine xP ?_
 intro b3
 refine xP ?_
 intro b5
 refine xI (qY G D M (eA s bU) fs name (decide (0<=n))) ?_
 have pN:=oS j6 bU name (decide (0<=n))
 have h0:=sR (h:=eA s bU) (fs:=fs) (name:=name) (right:=decide (0<=n))
 dsimp only[ae,ai,ah]
 generalize l6 (eA s bU) fs name (decide (0<=n))=r at*
 obtain⟨p,e⟩:=r
 dsimp only at pN h0 ⊢
 refine xA ?_
 intro b7
 refine xB ?_ ?_<;>intro h1
 ·have e0:s.truncate name n=(s,e):=by
   have h1:e≠0:=by simpa using h1
   unfold be.truncate;rw[pN]
   cases p
   ·rfl
   ·exact if_pos h1
  refine xS ?_
  exact X.ret hb (.tmps U) ⟨_,⟨by rw[e0];rfl,by rw[e0]⟩,qv (M:=M) (bU:=bU) dp j6⟩
 ·have h1:e=0:=by simpa using h1
  obtain⟨wI,hrt,⟨fb,f⟩,hp,hd⟩:=h0 h1
  have hn0:0<=n:=by simpa using hrt
  obtain⟨n,rfl⟩:∃k:Nat,n=k:=⟨n.toNat,by omega⟩
  subst hp
  subst h1
  obtain⟨pre,post,rfl,_⟩:=jR hd
  have tY:=j6
  rw[nZ]at tY
  have hlen:=dp.len tY.symm
  have e1:s.truncate name n=if(n:Int)>f.data.length then(s,70)else s.gZ (nv s.files name ⟨f.data.take n,min f.last n⟩) (s.used - (f.data.length - n)):=by
   unfold be.truncate;rw[pN];rfl
  dsimp only[pv,bH]
  refine A6 pre post name fb f λa c=>xS ?_
  refine eR 8 [6,3,0] ?_
  refine xL [0,1,2,3,4,5,6,7] ?_
  refine xS ?_
  refine X.cd (Hs':=[cV ((pre++(name,fb,f)::post).map fA),bx b7 75 [au fb],bx D 74 (DH.cs M (eA s bU)),mp ao M (dQ (pre++(name,fb,f)::post)),bx b5 3 [.int .i64 n],bx b3 28 [au D]]) ?_ ?_
  ·refine aN.trans (aN.es (A:=[bx fb 78 [.slice a f.data.length c,.int .i64 f.last],own 5 1 a f.data.length c (f.data.map fO),cV ((pre++post).map fA)])) ?_
   refine aN.trans (nS (pre:=pre) (post:=post) (name:=name) (f:=f) _) ?_
   exact aN.cons _ (by simp only[List.append_eq,ai];exact ay)
  refine xB ?_ ?_<;>intro h2
  ·have h2:(n:Int)>f.data.length:=by simpa using h2
   rw[if_pos h2]at e1
   refine xS ?_
   exact X.ret hb (.tmps U) ⟨_,⟨by rw[e1];rfl,by rw[e1]⟩,qv (M:=M) (bU:=bU) dp j6⟩
  ·have h2:¬(n:Int)>f.data.length:=by simpa using h2
   rw[if_neg h2]at e1
   have Vr:n<=f.data.length:=by omega
   refine xS ?_
   refine jc [bx b3 28 [au D],bx b7 75 [au fb],bx b5 3 [.int .i64 n],mp ao M (dQ (pre++(name,fb,f)::post)),cV ((pre++(name,fb,f)::post).map fA)] ?_
   have iz:nv s.files name ⟨f.data.take n,min f.last n⟩=nu pre++(name,⟨f.data.take n,min f.last n⟩)::nu post:=by
    rw[<-tY];exact Dq (by rw[tY];exact dp.nd)
   have hle:=dp.le
   have tZ:({s with files:=nv s.files name ⟨f.data.take n,min f.last n⟩,used:=s.used - (f.data.length - n)}:be).ok:=by
    rw[iz];exact dp.set tY.symm _ (by simp;omega) (by omega) (by simp;omega)
   refine bw (sQ G D M s bU 374 [au b3,au b7,au b5] _ (cV [mp ao M (dQ (pre++(name,fb,⟨f.data.take n,min f.last n⟩)::post)),cV ((pre++(name,fb,⟨f.data.take n,min f.last n⟩)::post).map fA)]) (nv s.files name ⟨f.data.take n,min f.last n⟩) (s.used - (f.data.length - n)) dp tZ ?_ ?_ (RR G D M b3 b7 b5 _ pre post name fb f n Vr (by show _<=s.used;omega) (by show s.used<=_;omega) hlen.2.1)) ?_
   ·exact(eW _).trans ((aN.drop _ _).trans ((aN.drop _ _).trans ((aN.drop _ _).trans (jq j6 []))))
   ·exact(eW _).trans (jq (by rw[iz];simp[nu]) [])
   ·rintro v B ⟨rfl,rfl⟩
    rw[<-e1]
    refine xD ?_
    exact xR
def be.read(s:be)(name:Bs)(at_ n:Int):be×Bs×Int:=
 match s.find name (decide (0<=at_)&&decide (0<=n))with
 |(some f,e)=>if e≠0 then(s,[],e)else
  let r:=s.gZ s.files s.used
  (r.1,if r.2=0 then(f.data.drop at_.toNat).take n.toNat else[],r.2)
 |(none,e)=>(s,[],e)
theorem bi1(a b:Nat):(if(b:Int)<(a:Int)then(b:Int)else(a:Int))=((min a b:Nat):Int):=av
theorem Wd(t6 t10 t7 t12:Nat)(h:DH)(pre post:oQ)(name:Bs)(fb:Nat)(f:bF)(at_ n:Nat)(hl:f.data.length<=4194304)(ha:at_<=9223372036854775807)(hn:n<=9223372036854775807):
 TR ab G 323 #[au t6,au t10,au t7,au t12] [bx D 74 (h.cs M),cV [bx t6 3 [.int .i64 at_],bx t10 75 [au fb],bx t7 3 [.int .i64 n],bx t12 55 [.slice none 0 0],mp ao M (dQ (pre++(name,fb,f)::post)),cV ((pre++(name,fb,f)::post).map fA)]]
  (cb λv B=>v=.tuple #[]/\B=[bx D 74 (DH.cs M {h with used:=h.used}),cV [tI 55 t12 ((f.data.drop at_).take n),mp ao M (dQ (pre++(name,fb,f)::post)),cV ((pre++(name,fb,f)::post).map fA)]]):=by
 refine TR.go (us:=[_,_,_,_]) (aI U) λb β hb hG=>?_
 refine kZ [bx t6 3 [.int .i64 at_],bx t10 75 [au fb],bx t7 3 [.int .i64 n],bx t12 55 [.slice none 0 0],mp ao M (dQ (pre++(name,fb,f)::post)),cV ((pre++(name,fb,f)::post).map fA)] ?_
 dsimp only[ae,ai,ah]
 refine A6 pre post name fb f λa c=>xS ?_
 refine eR 8 [3,4,0] ?_
 refine xL [0,1,2,3,4,5,6,7] ?_
 rw[bi1]
 obtain⟨m,hm⟩:∃m,m=min at_ f.data.length:=⟨_,U⟩
 rw[<-hm]
 have Z4:m<=f.data.length:=av
 refine xS ?_
 refine eR 16 [4,0,5] ?_
 refine xL [0,1,2,3,4,5,6,7,8,9,10,11,12,13,14] ?_
 obtain⟨k,hk⟩:∃k,k=min n (f.data.length - m):=⟨_,U⟩
 rw[show(if(f.data.length:Int) - (m:Int)<(n:Int)then(f.data.length:Int) - (m:Int)else(n:Int))=(k:Int)from by omega]
 refine ni a λtF rn=>xS ?_
 refine av6 (l:=m) (h:=m+k) U U U (Bd.at U U) (Bd.at U nH) av av λ_=>?_
 rw[show m+k - m=k from by omega]
 refine xS ?_
 refine bw (Jr (e:=5) (A:=[]) (Dr G (ph a c m 1) k (c - m) ((f.data.drop m).take k) bB av ?_) (Gg _) U av rn) ?_
 ·intro hh
  have:a=none:=by
   unfold ph at hh;split at hh;all_goals simp_all
  grind
 rintro v B ⟨B',⟨a8,c8,rfl,rfl⟩,rfl⟩
 refine xD ?_
 refine X.fin hb (.tmps U) ⟨_,⟨U,U⟩,?_⟩
 have hkd:(f.data.drop m).take k=(f.data.drop at_).take n:=by
  grind [aD]
 have Ud:((f.data.drop m).take k).length=((f.data.drop at_).take n).length:=by rw[hkd]
 rw[Ud,hkd]
 refine aN.trans (ay (A:=[bx D 74 (DH.cs M {h with used:=h.used}),mp ao M (dQ (pre++(name,fb,f)::post)),bx t12 55 [.slice a8 ((f.data.drop at_).take n).length c8],own 5 1 a8 ((f.data.drop at_).take n).length c8 (((f.data.drop at_).take n).map fO),bx fb 78 [.slice a f.data.length c,.int .i64 f.last],own 5 1 a f.data.length c (f.data.map fO),cV ((pre++post).map fA)])) ?_
 refine aN.cons _ ?_
 refine aN.trans ?_ (gH _)
 refine aN.trans (cQ _ _ _) ?_
 refine aN.trans (aN.cons _ (cQ _ _ _)) ?_
 refine aN.trans (gU (f:=λp:Option Addr×Nat=>[bx t12 55 [.slice p.1 ((f.data.drop at_).take n).length p.2],own 5 1 p.1 ((f.data.drop at_).take n).length p.2 (((f.data.drop at_).take n).map fO)]) (a8,c8) _) ?_
 refine aN.cons _ (aN.cons _ ?_)
 exact nS (pre:=pre) (post:=post) (name:=name) (f:=f) []
def aC5(p:Bs×Int)(v:Value)(B:List az):Prop:=(p.2=0/\∃a c,v=.tuple #[.slice a p.1.length c,.int .i64 0]/\B=[own 5 1 a p.1.length c (p.1.map fO)])\/(p.2≠0/\v=.tuple #[.slice none 0 0,.int .i64 p.2]/\B=[])
theorem We(bU:Int)(fd:Nat)[CF ab fd](cap:List Value)(S S' extra:az)(files:List (Bs×bF))(u:Nat)(dp:s.ok)(hok':({s with files:=files,used:=u}:be).ok)(hS:aN [S] [FT M s.files])(RJ:aN [S'] [FT M files,extra])(Fy:TR ab G fd cap.toArray [bx D 74 (DH.cs M (wP (eA s bU))),S] (cb λv B=>v=.tuple #[]/\B=[bx D 74 (DH.cs M {wP (eA s bU)with used:=u}),S'])):
 TR ab G 188 #[au D,.func (.func fd) #[] cap.toArray] [bx D 74 ((eA s bU).cs M),S] (cb λv B=>v=.int .i64 (s.gZ files u).2/\B=j7 D (s.gZ files u).1::(if(s.gZ files u).2=0 then[extra]else[])):=by
 refine(V8 G D M (eA s bU) fd cap S S' u dp.fa dp.ba Fy).dH (aN.refl _) ?_
 rintro e B hB
 cases e with
 |panicked ch=>exact hB.elim
 |outgrown=>exact hB.elim
 |returned v=>
  obtain⟨rfl,rfl⟩:=hB;have h4:=dp.gZ hok';unfold af5 af6;unfold be.gZ at h4 ⊢;have hS1:aN [S'] [FT M files]:=RJ.trans (fN [_] [_]);by_cases h1:s.ep=1
  ·rw[if_pos h1]at h4 ⊢;rw[if_pos (show(eA s bU).ep=1 from h1),if_pos (show(eA s bU).ep=1 from h1)];by_cases h2:s.done=true
   ·rw[if_pos h2]at h4 ⊢;rw[if_pos (show(eA s bU).done=true from h2)];exact⟨_,⟨U,U⟩,aN.fZ (s:={s.oR with files:=files,used:=u,down:=true}) (bU:=dV.wrap (bU+1)) h4 hS1⟩
   exact ad1
  ·rw[if_neg h1]at h4 ⊢;rw[if_neg (show ¬(eA s bU).ep=1 from h1),if_neg (show ¬(eA s bU).ep=1 from h1)];by_cases h2:s.ga=1
   ·exact aF4
   ·rw[if_neg h2]at h4 ⊢;rw[if_neg (show ¬(eA s bU).ga=1 from h2),if_neg (show ¬(eA s bU).ga=1 from h2)];refine⟨_,⟨U,U⟩,?_⟩;refine(aN.cons _ RJ).trans ?_;exact iQ (aN.fZ (s:={s.oR with files:=files,used:=u}) (bU:=dV.wrap (bU+1)) h4 (aN.refl _)) [extra]
theorem ag0(at_ n:Int)(ha:at_<=9223372036854775807)(hnn:n<=9223372036854775807):
 TR ab G 218 #[au D,ao name,.int .i64 at_,.int .i64 n] [j7 D s] (cb λv B=>∃B',aC5 (s.read name at_ n).2 v B'/\B=j7 D (s.read name at_ n).1::B'):=by
 refine TR.go (us:=[_,_,_,_]) (aI U) λb β hb hG=>?_
 refine X.fZ D λM bU fs dp j6=>?_
 refine xP ?_
 intro t6
 refine xP ?_
 intro t7
 have bad:∀(p:Option (Nat×bF)) (e:Int),s.find name (decide (0<=at_)&&decide (0<=n))=(p.map (·.2),e)->e≠0->s.read name at_ n=(s,[],e):=by
  intro p e pN he;unfold be.read;rw[pN];cases p
  ·rfl
  ·exact if_pos he
 refine xT 18 ?_ ?_<;>intro h9
 ·have h9:0<=at_:=by simpa using h9
  obtain⟨at_,rfl⟩:∃k:Nat,at_=k:=⟨at_.toNat,by omega⟩;refine xI (qY G D M (eA s bU) fs name (decide (n≥0))) ?_;have pN:=oS j6 bU name (decide (n≥0));have h0:=sR (h:=eA s bU) (fs:=fs) (name:=name) (right:=decide (n≥0));have hrt:(decide (0<=(at_:Int))&&decide (0<=n))=decide (n≥0):=nH;rw[hrt]at bad;dsimp only[ae,ai,ah];generalize l6 (eA s bU) fs name (decide (n≥0))=r at*;obtain⟨p,e⟩:=r;dsimp only at pN h0 ⊢;refine xA ?_;intro rR;refine xB ?_ ?_<;>intro h1
  ·exact Ys
  ·have h1:e=0:=by simpa using h1
   obtain⟨wI,hr0,⟨fb,f⟩,hp,hd⟩:=h0 h1;have hn0:0<=n:=by simpa using hr0
   obtain⟨n,rfl⟩:∃k:Nat,n=k:=⟨n.toNat,by omega⟩;subst hp;subst h1;obtain⟨pre,post,rfl,_⟩:=jR hd;have tY:=j6;rw[nZ]at tY;have hlen:=dp.len tY.symm;have e1:s.read name at_ n=((s.gZ s.files s.used).1,if(s.gZ s.files s.used).2=0 then(f.data.drop at_).take n else[],(s.gZ s.files s.used).2):=by
    unfold be.read;rw[hrt,pN];rfl
   dsimp only[pv,bH];refine xA ?_;intro t12;refine jc [bx t6 3 [.int .i64 at_],bx rR 75 [au fb],bx t7 3 [.int .i64 n],bx t12 55 [.slice none 0 0],mp ao M (dQ (pre++(name,fb,f)::post)),cV ((pre++(name,fb,f)::post).map fA)] ?_;have tZ:({s with files:=s.files,used:=s.used}:be).ok:=dp;refine bw (We G D M s bU 323 [au t6,au rR,au t7,au t12] _ (cV [tI 55 t12 ((f.data.drop at_).take n),mp ao M (dQ (pre++(name,fb,f)::post)),cV ((pre++(name,fb,f)::post).map fA)]) (tI 55 t12 ((f.data.drop at_).take n)) s.files s.used dp tZ ?_ ?_ (Wd G D M t6 rR t7 t12 _ pre post name fb f at_ n av av av)) ?_
   ·exact W9
   ·refine(eW _).trans ?_;refine(di (b:=[mp ao M (dQ (pre++(name,fb,f)::post)),cV ((pre++(name,fb,f)::post).map fA),tI 55 t12 ((f.data.drop at_).take n)]) ?_).trans (jq j6 _);exact aQ6
   ·rintro v B ⟨rfl,rfl⟩;generalize s.gZ s.files s.used=q at*;obtain⟨s',e'⟩:=q;dsimp only at e1 ⊢;by_cases h3:e'=0
    ·subst h3;rw[if_pos U];rw[if_pos U]at e1;refine xD ?_;refine Ps 55 t12 λa1 c1=>xS ?_;exact bO hb (.tmps U) ⟨_,by rw[e1];exact .inl ⟨U,a1,c1,U,U⟩,by rw[e1]⟩
    ·rw[if_neg h3];rw[if_neg h3]at e1;refine xD ?_;refine xB ?_ ?_<;>intro h4
     ·refine xS ?_;exact bO hb (.tmps U) ⟨[],by rw[e1];exact .inr ⟨h3,U,U⟩,by rw[e1]⟩
     ·exact absurd (by simpa using h4) h3
 ·have h9:¬0<=at_:=by simpa using h9
  refine xI (qY G D M (eA s bU) fs name false) ?_;have pN:=oS j6 bU name false;have h0:=sR (h:=eA s bU) (fs:=fs) (name:=name) (right:=false);have hrt:(decide (0<=at_)&&decide (0<=n))=false:=by simp[h9]
  rw[hrt]at bad;dsimp only[ae,ai,ah];generalize l6 (eA s bU) fs name false=r at*;obtain⟨p,e⟩:=r;dsimp only at pN h0 ⊢;refine xA ?_;intro rR;refine xB ?_ ?_<;>intro h1
  ·exact Ys
  ·have h1:e=0:=by simpa using h1
   exact absurd (h0 h1).2.1 nH
def be.renamed(s:be)(from_ bD5:Bs)(f:bF):List (Bs×bF):=if from_=bD5 then s.files else ku (ku s.files bD5) from_++[(bD5,f)]
def be.rename(s:be)(from_ bD5:Bs):be×Int:=
 match s.find from_ (dy bD5)with
 |(some f,e)=>if e≠0 then(s,e)else s.gZ (s.renamed from_ bD5 f) (gf (s.renamed from_ bD5 f))
 |(none,e)=>(s,e)
theorem Ke{fs:oQ}{name:Bs}(h:name∉fs.map (·.1))(fb:Nat)(f:bF):gJ (dQ fs) name (au fb)=dQ (fs++[(name,fb,f)]):=by
 grind [lR]
theorem Wf:name∉(n4 fs name).map (·.1):=by
 intro h
 obtain⟨x,hx,hxn⟩:=bj.1 h
 have:=(dZ.1 hx).2
 grind
theorem Dt:(n4 fs name).Sublist fs:=List.filter_sublist
theorem GD{fs:oQ}{a b:Bs}(hab:a≠b):kq (n4 fs b) a=kq fs a:=by
 grind [kq,n4]
theorem Ny(t4 t5 t3 t7:Nat)(h:DH)(fs:oQ)(from_ bD5:Bs)(fb:Nat)(f:bF)(hd:kq fs from_=some (fb,f))(me:from_≠bD5)(jd:(fs.map (·.1)).Nodup)(hu:wR (kq fs bD5)<=h.used)(hu2:h.used<=4194304):
 TR ab G 373 #[au t4,au t5,au t3,au t7] [bx D 74 (h.cs M),cV [bx t4 9 [ao from_],bx t5 9 [ao bD5],bx t3 28 [au D],bx t7 75 [au fb],mp ao M (dQ fs),cV (fs.map fA)]]
  (cb λv B=>v=.tuple #[]/\B=[bx D 74 (DH.cs M {h with used:=h.used - wR (kq fs bD5)}),cV [mp ao M (dQ (n4 (n4 fs bD5) from_++[(bD5,fb,f)])),cV ((n4 (n4 fs bD5) from_++[(bD5,fb,f)]).map fA)]]):=by
 refine TR.go (us:=[_,_,_,_]) (aI U) λb β hb hG=>?_
 refine kZ [bx t4 9 [ao from_],bx t5 9 [ao bD5],bx t3 28 [au D],bx t7 75 [au fb],mp ao M (dQ fs),cV (fs.map fA)] (xD ?_)
 refine xB ?_ ?_<;>intro h1
 ·exact absurd bE me
 ·refine xH (PW G D M h fs bD5 jd hu hu2) ?_;generalize h.used - wR (kq fs bD5)=u at*;refine xS ?_;refine eR 5 [5,0,3] ?_;refine xL [0,1,2,3,4] ?_;refine mr U U U U ?_;refine CK from_ bW U U U ?_;rw[GC _ _ (jd.sublist ((Dt fs bD5).map _))];refine xS ?_;refine eR 6 [5,1,4,6] ?_;refine xL [0,1,2,3,4,5] ?_;refine mr U U U U ?_;refine qi bD5 bW U U U U ?_;rw[Ke (λhh=>Wf fs bD5 (((Dt _ from_).map _).subset hh)) fb f];refine xS ?_;refine X.fin hb (.tmps U) ⟨_,⟨U,U⟩,?_⟩;have Z5:kq (n4 fs bD5) from_=some (fb,f):=by grind [GD]
  obtain⟨pre,post,Ue,_⟩:=jR Z5;have RT:n4 (n4 fs bD5) from_=pre++post:=by
   grind [Dt,wQ]
  refine aN.trans (ay (A:=[bx D 74 (DH.cs M {h with used:=u}),mp ao M (dQ (n4 (n4 fs bD5) from_++[(bD5,fb,f)])),cV ((n4 fs bD5).map fA)])) ?_;refine aN.cons _ ?_;refine aN.trans (aN.cons _ ?_) (gH _);refine(eW _).trans (aN.trans (di ?_) (gH _));rw[RT,Ue];simp only[cq,aK,ie];refine ee.trans ?_;rw[<-cq];exact(List.perm_append_singleton _ _).symm
theorem Nz(t4 t5 t3 t7:Nat)(h:DH)(S:List az)(name:Bs)(fb:Nat):
 TR ab G 373 #[au t4,au t5,au t3,au t7] [bx D 74 (h.cs M),cV [bx t4 9 [ao name],bx t5 9 [ao name],bx t3 28 [au D],bx t7 75 [au fb],cV S]]
  (cb λv B=>v=.tuple #[]/\B=[bx D 74 (DH.cs M {h with used:=h.used}),cV S]):=by
 refine TR.go (us:=[_,_,_,_]) (aI U) λb β hb hG=>?_
 refine kZ [bx t4 9 [ao name],bx t5 9 [ao name],bx t3 28 [au D],bx t7 75 [au fb],cV S] (xD ?_)
 refine xB ?_ ?_<;>intro h1
 ·exact xR
 ·simp at h1
theorem be.ok.renamed{s:be}(h:s.ok){from_ bD5:Bs}{f:bF}(hf:jE s.files from_=some f)(hto:dy bD5=true):({s with files:=s.renamed from_ bD5 f,used:=gf (s.renamed from_ bD5 f)}:be).ok:=by
 unfold be.renamed;by_cases me:from_=bD5
 ·rw[if_pos me,<-h.vX];exact h
 ·rw[if_neg me]
  have h1:=h.del bD5
  have h2:=h1.del from_
  have hfm:∃x∈s.files,x.1=from_/\x.2=f:=by
   grind [jE,bk]
  obtain⟨x,hx,jz,rfl⟩:=hfm
  have hag:jE (ku s.files bD5) from_=jE s.files from_:=by
   grind [jE,ku]
  have gE:=p9 (ku s.files bD5) from_ h1.nd
  rw[hag,hf]at gE
  simp only[Nv]at gE
  have hle1:=yJ s.files bD5 h.nd
  have Kc:=h.vX
  have hle:=h.le
  refine⟨?_,U,?_,h.cap,h.fa,h.ba,?_,?_⟩
  ·simp only[cq,aK,ie]
   rw[eP]
   refine⟨h2.nd,by simp,?_⟩
   intro a ha c hc hh
   simp only[bD]at hc
   subst hc;subst hh
   obtain⟨y,hy,hyn⟩:=bj.1 ha
   have:=(dZ.1 ((yI _ _).subset hy)).2
   grind
  ·grind [gf]
  ·intro y hy;rcases cM.1 hy with hy|hy
   ·exact h2.last y hy
   ·simp only[bD]at hy;subst hy;exact h.last x hx
  ·intro y hy
   rcases cM.1 hy with hy|hy
   ·exact h2.name y hy
   grind
theorem RW:
 TR ab G 277 #[au D,ao from_,ao bD5] [j7 D s] (cb λv B=>v=.int .i64 (s.rename from_ bD5).2/\B=[j7 D (s.rename from_ bD5).1]):=by
 refine jr U λb β hb hG=>?_
 refine X.fZ D λM bU fs dp j6=>?_
 have pN:=oS j6 bU from_ (dy bD5)
 have h0:=sR (h:=eA s bU) (fs:=fs) (name:=from_) (right:=dy bD5)
 have zJ:=qY G D M (eA s bU) fs from_ (dy bD5)
 generalize l6 (eA s bU) fs from_ (dy bD5)=r at*
 obtain⟨p,e⟩:=r
 dsimp only at pN h0 zJ
 refine xP ?_
 intro t3
 refine xP ?_
 intro t4
 refine xP ?_
 intro t5
 refine jI (ι:=Nat) (λt7=>([(3,au t3),(4,au t4),(5,au t5),(6,.int .i64 0),(7,au t7),(8,.int .i64 e)],[bx t7 75 [.pointer (pv p)],bx t5 9 [ao bD5],bx t4 9 [ao from_],bx t3 28 [au D],bx D 74 (DH.cs M (eA s bU)),mp ao M (dQ fs),cV (fs.map fA)])) (λt7=>?_) (λK fin=>?_)
 ·dsimp only;refine xB ?_ ?_<;>intro h1
  ·have e0:s.rename from_ bD5=(s,e):=by
    have h1:e≠0:=Ic;unfold be.rename;rw[pN];exact aD2
   exact bf4
  ·have h1:e=0:=by simpa using h1
   obtain⟨wI,hto,⟨fb,f⟩,hp,hd⟩:=h0 h1;subst hp;subst h1;have e1:s.rename from_ bD5=s.gZ (s.renamed from_ bD5 f) (gf (s.renamed from_ bD5 f)):=by
    unfold be.rename;rw[pN];rfl
   have hag:jE s.files from_=some f:=by rw[<-j6,<-uI,hd];rfl
   have tZ:=dp.renamed hag hto;dsimp only[pv,bH];have jd:(fs.map (·.1)).Nodup:=aY2;by_cases me:from_=bD5
   ·subst me;have hrn:s.renamed from_ from_ f=s.files:=by unfold be.renamed;rw[if_pos U]
    rw[hrn,<-dp.vX]at e1;refine xS ?_;refine jc [mp ao M (dQ fs),cV (fs.map fA)] ?_;refine jc [bx t4 9 [ao from_],bx t5 9 [ao from_],bx t3 28 [au D],bx t7 75 [au fb],cV [mp ao M (dQ fs),cV (fs.map fA)]] ?_;refine bw (sQ G D M s bU 373 [au t4,au t5,au t3,au t7] _ _ s.files s.used dp dp ?_ ?_ (Nz G D M t4 t5 t3 t7 _ [mp ao M (dQ fs),cV (fs.map fA)] from_ fb)) ?_
    ·exact(eW _).trans ((aN.drop _ _).trans ((aN.drop _ _).trans ((aN.drop _ _).trans ((aN.drop _ _).trans ((eW _).trans (jq j6 []))))))
    ·exact(eW _).trans (jq j6 [])
    ·exact aC6
   ·have gE:=p9 s.files bD5 dp.nd;have Kc:=dp.vX;have hul:wR (kq fs bD5)=Nv (jE s.files bD5):=by rw[Kb,j6]
    have rn:=dp.cap;have hle:=dp.le;have hrn:s.renamed from_ bD5 f=ku (ku s.files bD5) from_++[(bD5,f)]:=by unfold be.renamed;rw[if_neg me]
    have hsum2:gf (s.renamed from_ bD5 f)=gf (ku s.files bD5):=by
     have h1:=p9 (ku s.files bD5) from_ (dp.del bD5).nd;have hag2:jE (ku s.files bD5) from_=some f:=by
      rw[<-j6,<-yH,<-uI,GD me,hd];rfl
     rw[hag2]at h1;rw[hrn,rW,<-h1];simp[gf,Nv]
    refine xS ?_;refine jc [bx t4 9 [ao from_],bx t5 9 [ao bD5],bx t3 28 [au D],bx t7 75 [au fb],mp ao M (dQ fs),cV (fs.map fA)] ?_;have wm:=Ny G D M t4 t5 t3 t7 (wP (eA s bU)) fs from_ bD5 fb f hd me jd aV6 VY;rw[show(wP (eA s bU)).used - wR (kq fs bD5)=gf (s.renamed from_ bD5 f)from by show s.used - _=_;omega]at wm;refine bw (sQ G D M s bU 373 [au t4,au t5,au t3,au t7] _ _ (s.renamed from_ bD5 f) (gf (s.renamed from_ bD5 f)) dp tZ ?_ ?_ wm) ?_
    ·exact W9
    ·exact(eW _).trans (jq (by rw[hrn,<-j6,<-yH,<-yH];simp[nu]) [])
    ·exact aC6
 ·refine nR [0,1,2,5,6,7] [2,1,0] ?_;refine xL [0,1,2] ?_;refine dA U U U U U ?_ ?_
  ·refine xS ?_;refine dA U U U U U ?_ ?_
   ·refine xE zJ ?_;refine xL [5,6,7] ?_;refine xA ?_;intro t7;exact X.W (fin t7)
   exact ba3
  exact ba3
end
end Go.Proofs
namespace Go.Proofs
open Go.Shelf
set_option maxRecDepth 8000
def xY:Go.Shelf.Ren:=⟨fun|6=>256|8=>363|9=>362|19=>440|20=>357|21=>431|22=>432|23=>433|24=>434|25=>435|26=>436|27=>437|28=>438|29=>439|36=>479|31=>480|32=>481|37=>482|38=>483|39=>403|41=>499|n=>n,fun|27=>35|29=>9|3=>3|32=>388|26=>35|0=>0|44=>139|46=>87|4=>4|36=>552|35=>551|41=>556|5=>5|9=>9|53=>588|57=>425|63=>598|64=>44|n=>n,fun|n=>n⟩
theorem wi:Go.Proofs.SlLaysM.n6 ab xY:={
 mixed:=cA
 f6:=⟨Tryz.f256.name,by decide,Tryz.func256.trans (congrArg some cA)⟩
 f8:=Tryz.func363.trans (congrArg some cA)
 f9:=⟨Tryz.f362.name,by decide,Tryz.func362.trans (congrArg some cA)⟩
 f19:=Tryz.func440.trans (congrArg some cA)
 f20:=Tryz.func357.trans (congrArg some cA)
 f21:=⟨Tryz.f431.name,by decide,Tryz.func431.trans (congrArg some cA)⟩
 f22:=⟨Tryz.f432.name,by decide,Tryz.func432.trans (congrArg some cA)⟩
 f23:=⟨Tryz.f433.name,by decide,Tryz.func433.trans (congrArg some cA)⟩
 f24:=⟨Tryz.f434.name,by decide,Tryz.func434.trans (congrArg some cA)⟩
 f25:=⟨Tryz.f435.name,by decide,Tryz.func435.trans (congrArg some cA)⟩
 f26:=⟨Tryz.f436.name,by decide,Tryz.func436.trans (congrArg some cA)⟩
 f27:=⟨Tryz.f437.name,by decide,Tryz.func437.trans (congrArg some cA)⟩
 f28:=⟨Tryz.f438.name,by decide,Tryz.func438.trans (congrArg some cA)⟩
 f29:=⟨Tryz.f439.name,by decide,Tryz.func439.trans (congrArg some cA)⟩
 f31:=Tryz.func480.trans (congrArg some cA)
 f32:=Tryz.func481.trans (congrArg some cA)
 f36:=⟨Tryz.f479.name,by decide,Tryz.func479.trans (congrArg some cA)⟩
 f37:=⟨Tryz.f482.name,by decide,Tryz.func482.trans (congrArg some cA)⟩
 f38:=⟨Tryz.f483.name,by decide,Tryz.func483.trans (congrArg some cA)⟩
 f39:=⟨Tryz.f403.name,by decide,Tryz.func403.trans (congrArg some cA)⟩
 f41:=⟨Tryz.f499.name,by decide,Tryz.func499.trans (congrArg some cA)⟩
 t0:=Tryz.underlying0
 a0:=Tryz.isAgg0
 z0:=Tryz.sizeOf0
 v0:=Tryz.zeroValue0
 t3:=ed
 a3:=Tryz.isAgg3
 z3:=Tryz.sizeOf3
 v3:=Tryz.zeroValue3
 t4:=fY
 a4:=Tryz.isAgg4
 z4:=Tryz.sizeOf4
 v4:=Tryz.zeroValue4
 t5:=fX
 a5:=Tryz.isAgg5
 z5:=Tryz.sizeOf5
 v5:=Tryz.zeroValue5
 t9:=cO
 a9:=Tryz.isAgg9
 z9:=Tryz.sizeOf9
 v9:=Tryz.zeroValue9
 t26:=Tryz.underlying35
 a26:=Tryz.isAgg35
 z26:=Tryz.sizeOf35
 v26:=Tryz.zeroValue35
 t27:=Tryz.underlying35
 a27:=Tryz.isAgg35
 z27:=Tryz.sizeOf35
 v27:=Tryz.zeroValue35
 t29:=cO
 a29:=Tryz.isAgg9
 z29:=Tryz.sizeOf9
 v29:=Tryz.zeroValue9
 t32:=Tryz.underlying388
 a32:=Tryz.isAgg388
 z32:=Tryz.sizeOf388
 v32:=Tryz.zeroValue388
 t35:=Tryz.underlying551
 a35:=Tryz.isAgg551
 z35:=Tryz.sizeOf551
 v35:=Tryz.zeroValue551
 t36:=Tryz.underlying552
 a36:=Tryz.isAgg552
 z36:=Tryz.sizeOf552
 v36:=Tryz.zeroValue552
 t41:=Tryz.underlying556
 a41:=Tryz.isAgg556
 z41:=Tryz.sizeOf556
 v41:=Tryz.zeroValue556
 t44:=fg
 a44:=Tryz.isAgg139
 z44:=Tryz.sizeOf139
 v44:=Tryz.zeroValue139
 t46:=eO
 a46:=Tryz.isAgg87
 z46:=Tryz.sizeOf87
 v46:=Tryz.zeroValue87
 t53:=Tryz.underlying588
 a53:=Tryz.isAgg588
 z53:=Tryz.sizeOf588
 v53:=Tryz.zeroValue588
 t57:=Tryz.underlying425
 a57:=Tryz.isAgg425
 z57:=Tryz.sizeOf425
 v57:=Tryz.zeroValue425
 t63:=Tryz.underlying598
 a63:=Tryz.isAgg598
 z63:=Tryz.sizeOf598
 v63:=Tryz.zeroValue598
 t64:=Tryz.underlying44
 a64:=Tryz.isAgg44
 z64:=Tryz.sizeOf44
 v64:=Tryz.zeroValue44}
end Go.Proofs
namespace Go.Proofs
open Go.Sl
set_option maxRecDepth 8000
section
variable(l:List Bs)(iL:Nat)(S:List (Bs×Value))(i:Nat)(fs:oQ)(G:bZ)(D:Nat)(s:be)(a:Option Addr)(n c:Nat)
def sortStr(l:List Bs):List Bs:=l.mergeSort λx y=>decide (x<=y)
theorem jh:(sortStr l).length=l.length:=List.length_mergeSort _
theorem iK:(sortStr l).Perm l:=List.mergeSort_perm _ _
theorem GF:(l.flatMap λs=>[ao s])=l.map encStr:=by
 induction l<;>grind
theorem Wg(ss:List Bs)(hn:ss.length=n)(xz:n<=1000000000000):
 TR ab G 256 #[.slice a n c] [own 9 1 a n c (ss.flatMap λs=>[ao s])] (cb λv B=>v=.tuple #[]/\B=[own 9 1 a n c ((sortStr ss).flatMap λs=>[ao s])]):=by
 intro β w _ hs
 rw[GF]at hs
 rw[GF]
 rcases dx hs with⟨rfl,rfl,rfl,M9,h2⟩|⟨g,cur,rfl,h3,h6,h7,h8,h9,h2⟩
 ·have Wh:ss=[]:=by grind
  subst Wh;refine(AnyM.slices_Sort_string_none wi none 0 w).mono ?_;rintro e w' ⟨rfl,rfl⟩;exact⟨_,⟨U,U⟩,by simpa[sortStr]using iZ 9 1 h2⟩
 ·subst hn
  have hg:=dS h2
  rw[Nat.mul_one]at h3 h8 h9
  have hH:=Go.holds_of_block hg h9
  refine(AnyM.slices_Sort_string wi g 0 c ss w hH (dT.1 hg).1 av).mono ?_
  rintro e w' ⟨rfl,n',os,rfl⟩
  refine⟨_,⟨U,U⟩,?_⟩
  have h4:=zM h2 (Go.grownBy_sorted (w:=w) (g:=g) (n:=n') (os:=os) (sortStr ss).toArray) (aT _ _) (Go.heap_sorted (sortStr ss).toArray hg) (.inl U)
  grind [fK,jh,Sort.putCells,Go.take_putCells,sortStr]
theorem qw(f:Nat)[CF ab f](cap:List Value)(A:List az)(uD tX:List Bs->Prop)(hit:z7 ab G f cap A (λk:Bs=>[ao k]) uD tX)(hl:∀p,uD p->p.length<=1000000000000)(hf:∀p,tX p->p.length<=1000000000000):
 TR ab G 161 #[.func (.func f) #[] cap.toArray] [cV A] (cb λv B=>∃ys,tX ys/\∃a c,v=.slice a (sortStr ys).length c/\B=[own 9 1 a (sortStr ys).length c ((sortStr ys).flatMap λk=>[ao k]),cV A]):=by
 refine cg U λb β hb hG=>xS ?_
 refine bw (JW G f cap A uD tX hit hl) ?_
 rintro v B ⟨ys,yz,a,c,rfl,rfl⟩
 dsimp only[ae,ai,ah]
 have Kf:=hf ys yz
 refine xS ?_
 refine bw (Wg G a ys.length c ys U Kf) ?_
 rintro v B ⟨rfl,rfl⟩
 refine xD ?_
 exact bO hb (.tmps U) ⟨ys,yz,a,c,by rw[jh];rfl,by rw[jh]⟩
theorem ry{α:Type}{r:α->α->Prop}(anti:∀a b,r a b->r b a->a=b):∀{l m:List α},l.Perm m->l.Pairwise r->m.Pairwise r->l=m
 |[],m,h,_,_=>(List.Perm.nil_eq h).symm▸U
 |x::l,[],h,_,_=>by simp_all
 |x::l,y::m,h,h1,h2=>by
  have hx:x∈y::m:=h.mem_iff.1 (List.mem_cons_self ..);have hy:y∈x::l:=h.mem_iff.2 (List.mem_cons_self ..);have ZU:x=y:=by
   rcases bK.1 hx with e|hx
   ·exact e
   ·rcases bK.1 hy with e|hy
    ·exact e.symm
    ·exact anti _ _ ((List.pairwise_cons.1 h1).1 y hy) ((List.pairwise_cons.1 h2).1 x hx)
  subst ZU;have h3:l.Perm m:=(List.perm_cons x).1 h;rw[ry anti h3 (List.pairwise_cons.1 h1).2 (List.pairwise_cons.1 h2).2]
theorem uJ:(sortStr l).Pairwise (λa b=>a<=b):=by
 have h:=List.pairwise_mergeSort (le:=λx y:Bs=>decide (x<=y)) (λa b c h1 h2=>by simp only[decide_eq_true_eq]at h1 h2 ⊢;exact List.le_trans h1 h2) (λa b=>by simpa using List.le_total a b) l;exact h.imp (λh=>by grind)
theorem ob{l m:List Bs}(h:l.Perm m):sortStr l=sortStr m:=
 ry (λa b h1 h2=>List.le_antisymm h1 h2) ((iK l).trans (h.trans (iK m).symm)) (uJ l) (uJ m)
def be.names(s:be):List Bs:=sortStr (s.files.map (·.1))
theorem Kg(hl:s.files.length<=1000000000000):
 TR ab G 119 #[au D] [j7 D s] (cb λv B=>∃a c,v=.slice a s.names.length c/\B=[own 9 1 a s.names.length c (s.names.flatMap λk=>[ao k]),j7 D s]):=by
 refine cg U λb β hb hG=>?_
 refine X.fZ D λM bU fs dp j6=>?_
 have hfm:(dQ fs).map (·.1)=s.files.map (·.1):=by rw[<-j6,rV];simp[dQ]
 refine xS ?_
 refine bw (Vt G M) ?_
 rintro v B ⟨p,rfl,rfl⟩
 refine xD ?_
 refine jc [bx p 72 [.map (some M)],mp ao M (dQ fs)] ?_
 refine bw (qw G 259 [au p] _ _ _ (Vv G p M (dQ fs)) (λpre ⟨post,hp⟩=>?_) (λys hp=>?_)) ?_
 ·have:=hp.length_eq
  grind
 ·have:=hp.length_eq
  grind
 rintro v B ⟨ys,yz,a,c,rfl,rfl⟩
 have wx:sortStr ys=s.names:=by rw[ob yz,hfm];rfl
 rw[wx]
 refine xD ?_
 refine X.ret hb (.tmps U) ⟨_,⟨a,c,U,U⟩,?_⟩
 refine aN.trans (ay (A:=[own 9 1 a s.names.length c (s.names.flatMap λk=>[ao k]),bx D 74 ((eA s bU).cs M),cV (fs.map fA),cV [bx p 72 [.map (some M)],mp ao M (dQ fs)]])) ?_
 refine aN.cons _ ?_
 refine aN.trans (di (b:=[cV [bx p 72 [.map (some M)],mp ao M (dQ fs)],bx D 74 ((eA s bU).cs M),cV (fs.map fA)]) ?_) ?_
 ·exact(cG (l₁:=[_,_]) (l₂:=[_]))
 ·refine(gG _ _).trans ?_;dsimp only[ae,ai,ah];exact qv (M:=M) (bU:=bU) dp j6
structure bn where
 name:Bs
 data:Bs
deriving DecidableEq
abbrev Fq:=List (bn×Option Addr×Nat)
@[reducible] def bG(x:bn×Option Addr×Nat):List Value:=[ao x.1.name,.slice x.2.1 x.1.data.length x.2.2]
def kP(x:bn×Option Addr×Nat):az:=own 5 1 x.2.1 x.1.data.length x.2.2 (x.1.data.map fO)
def wS(a:Option Addr)(c:Nat)(l:List bn):az:=ex λq:Fq=>[pu (q.map (·.1)=l),own 70 2 a l.length c (q.flatMap bG),cV (q.map kP)]
theorem U1(q:Fq)(x:bn×Option Addr×Nat)(F:List az):aN (kP x::cV (q.map kP)::F) (cV ((q++[x]).map kP)::F):=by
 refine(aN.cons _ (gG _ F)).trans (aN.trans ?_ (gp _ F));show aN ((kP x::q.map kP)++F) _;exact by8
structure SzF(G:bZ)(fsz:Nat)(sz:bF->Nat):Prop where
 ok:∀(fb:Nat) (f:bF) (a:Option Addr) (c:Nat),TR ab G fsz #[au fb] [bx fb 78 [.slice a f.data.length c,.int .i64 f.last]] (cb λv B=>v=.int .i64 (sz f)/\B=[bx fb 78 [.slice a f.data.length c,.int .i64 f.last]])
def tL(s:be)(sz:bF->Nat)(n:Bs):bn:=match jE s.files n with|some f=>⟨n,f.data.take (sz f)⟩|none=>⟨n,[]⟩
def be.told(s:be)(sz:bF->Nat):List bn:=s.names.map (tL s sz)
theorem Du(h:i<l.length):l.take (i+1)=l.take i++[l[i]]:=nH
theorem PX(fsz:Nat)[CF ab fsz](sz:bF->Nat)(xz:SzF G fsz sz)(D:Nat)(s:be)(hl:s.files.length<=1000000000000)(hz:∀x∈s.files,sz x.2<=x.2.data.length):
 TR ab G 62 #[au D,.func (.func fsz) #[] #[]] [j7 D s] (cb λv B=>∃a c,v=.slice a (s.told sz).length c/\B=[wS a c (s.told sz),j7 D s]):=by
 refine aW U λb β hb hG=>xS ?_
 refine bw (Kg G D s hl) ?_
 rintro v B ⟨an,cn,rfl,rfl⟩
 dsimp only[ae,ai,ah]
 refine dE an (λk:Bs=>[ao k]) s.names U U (λ_=>rfl) λUf=>?_
 refine X.fZ D λM bU fs dp j6=>?_
 have Vr:s.names.length<=1000000000000:=by grind [be.names,jh]
 have iq:∀n∈s.names,n∈fs.map (·.1):=by
  intro n hn
  have:=(iK _).mem_iff.1 hn
  grind [rV]
 have htd:s.told sz=s.names.map (tL s sz):=U
 generalize wI:s.names=nm at*
 refine xS ?_
 refine X.cd (Hs':=[own 70 2 none 0 0 [],bV (bp λk:Bs=>[ao k]) 1 an nm,bx D 74 ((eA s bU).cs M),mp ao M (dQ fs),cV (fs.map fA)]) ((ay (A:=[bV (bp λk:Bs=>[ao k]) 1 an nm,bx D 74 ((eA s bU).cs M),mp ao M (dQ fs),cV (fs.map fA)])).trans (ej 70 2 _)) ?_
 refine X.loop (ι:={p:Nat×Fq×Option Addr×Nat // p.1<=nm.length/\p.2.1.map (·.1)=(nm.take p.1).map (tL s sz)}) (λp=>([(0,au D),(1,.func (.func fsz) #[] #[]),(5,.slice p.1.2.2.1 p.1.2.1.length p.1.2.2.2),(10,.slice an nm.length cn),(11,.int .i64 nm.length),(12,.int .i64 p.1.1)],
  [own 70 2 p.1.2.2.1 p.1.2.1.length p.1.2.2.2 (p.1.2.1.flatMap bG),cV (p.1.2.1.map kP),bV (bp λk:Bs=>[ao k]) 1 an nm,bx D 74 ((eA s bU).cs M),mp ao M (dQ fs),cV (fs.map fA)])) (λp=>nm.length - p.1.1) ⟨(0,[],none,0),al _,U⟩ (Sub.of U) (aN.cons _ (gp [] _)) ?_
 rintro⟨⟨i,q,a5,c5⟩,hi,hq⟩ ih
 dsimp only at hi hq ih ⊢
 refine xB ?_ ?_<;>intro h
 ·have fw:i<nm.length:=by grind
  have Z6:q.length=i:=bi2;refine xS ?_;refine cH U U U U U fw U λbl o=>xS ?_;refine rJ nm[i] U U U U ?_;rw[vw];obtain⟨⟨fb,f⟩,hd⟩:∃x,kq fs nm[i]=some x:=by
   cases hd:kq fs nm[i]<;>grind [aB,pZ]
  have hag:jE s.files nm[i]=some f:=by grind [uI]
  have htf:tL s sz nm[i]=⟨nm[i],f.data.take (sz f)⟩:=by grind [tL]
  have vy:=Du nm i fw;rw[hd];obtain⟨pre,post,Ue,_⟩:=jR hd;have tY:=j6;rw[Ue,nZ]at tY;have hlen:=dp.len tY.symm;have hzf:sz f<=f.data.length:=hz (nm[i],f) bE;rw[Ue];generalize nm[i]=name at*;dsimp only[pv,bH];refine A6 pre post name fb f λa c=>?_;refine ni a λtF rn=>xS ?_;refine eR 8 [0] ?_;refine xL [0,1,2,3,4,5,6,7] ?_;refine xS ?_;refine gW (fst:=[]) (us:=[au fb]) (cap:=[]) hG (xz.ok fb f a c) U U U U aN.es ?_;rintro v B ⟨rfl,rfl⟩;refine xD ?_;refine av6 (l:=0) (h:=sz f) U U U Bd.no (Bd.at U U) (al _) hzf λ_=>?_;rw[Nat.sub_zero,Nat.sub_zero];refine xS ?_;refine bw (Jr (e:=5) (A:=[]) (Dr G (ph a c 0 1) (sz f) c ((f.data.drop 0).take (sz f)) bB av ?_) (Gg _) U av rn) ?_
  ·intro hh
   have:a=none:=by
    unfold ph at hh;split at hh;all_goals simp_all
   grind
  rintro v B ⟨B',⟨a8,c8,rfl,rfl⟩,rfl⟩;rw[fm];refine xD ?_;refine xZ ?_;intro Bl;refine eD ((⟨name,f.data.take (sz f)⟩,a8,c8):bn×Option Addr×Nat) U U U U U U iA iA iA iA iA av λa9 c9=>xS ?_;refine X.less (ih ⟨(i+1,q++[(⟨name,f.data.take (sz f)⟩,a8,c8)],a9,c9),fw,by grind⟩ bE) (YX U U U U U (eN U nH)) ?_;dsimp only;rw[Ue];refine aN.trans (aN.es (A:=[own 5 1 a8 (f.data.take (sz f)).length c8 ((f.data.take (sz f)).map fO),cV (q.map kP)])) ?_;refine aN.trans (U1 q (⟨name,f.data.take (sz f)⟩,a8,c8) _) ?_;simp only[List.append_eq,ai];refine aN.trans (aN.cons _ (aN.es (A:=[bx fb 78 [.slice a f.data.length c,.int .i64 f.last],own 5 1 a f.data.length c (f.data.map fO),cV ((pre++post).map fA)]))) ?_;refine aN.trans (aN.cons _ (nS (pre:=pre) (post:=post) (name:=name) (f:=f) _)) ?_;exact aH8
 ·have fw:i=nm.length:=by grind
  subst fw;rw[bh]at hq;have Z6:q.length=(s.told sz).length:=bE;refine xS ?_;refine X.ret hb (.tmps U) ⟨_,⟨a5,c5,by rw[Z6];rfl,U⟩,?_⟩;refine aN.trans (aN.es (A:=[own 70 2 a5 q.length c5 (q.flatMap bG),cV (q.map kP)])) ?_;refine aN.trans (dY (p:=q.map (·.1)=s.told sz) bE _) ?_;rw[Z6];refine aN.trans (gU (f:=λq:Fq=>[pu (q.map (·.1)=s.told sz),own 70 2 a5 (s.told sz).length c5 (q.flatMap bG),cV (q.map kP)]) q _) ?_;exact aN.cons _ (qv (M:=M) (bU:=bU) dp j6)
theorem bi3:SzF G 63 (λf=>f.data.length):=⟨λfb f a c=>by
 refine cg U λb β hb hG=>xS ?_;exact bO hb (.tmps U) ⟨U,U⟩⟩
theorem aX4:SzF G 181 (λf=>f.last):=⟨λfb f a c=>by
 refine cg U λb β hb hG=>xS ?_;exact bO hb (.tmps U) ⟨U,U⟩⟩
@[reducible] def be.all(s:be):List bn:=s.told λf=>f.data.length
@[reducible] def be.lU(s:be):List bn:=s.told λf=>f.last
theorem Wj(hl:s.files.length<=1000000000000):
 TR ab G 30 #[au D] [j7 D s] (cb λv B=>∃a c,v=.slice a s.all.length c/\B=[wS a c s.all,j7 D s]):=by
 refine cg U λb β hb hG=>xS ?_
 refine bw (PX G 63 _ (bi3 G) D s hl (λx hx=>ar _)) ?_
 rintro v B ⟨a,c,rfl,rfl⟩
 refine xD ?_
 exact bO hb (.tmps U) ⟨a,c,U,U⟩
theorem NA(hl:s.files.length<=1000000000000)(dp:s.ok):
 TR ab G 125 #[au D] [j7 D s] (cb λv B=>∃a c,v=.slice a s.lU.length c/\B=[wS a c s.lU,j7 D s]):=by
 refine cg U λb β hb hG=>xS ?_
 refine bw (PX G 181 _ (aX4 G) D s hl dp.last) ?_
 rintro v B ⟨a,c,rfl,rfl⟩
 refine xD ?_
 exact bO hb (.tmps U) ⟨a,c,U,U⟩
def nw(iL:Nat)(f:bF):bF:=⟨f.data.take (f.last+min iL (f.data.length - f.last)),f.last+min iL (f.data.length - f.last)⟩
def be.ji(s:be)(iL:Int):be:=
 let fs:=s.files.map λx=>(x.1,nw iL.toNat x.2)
 {s with files:=fs,used:=gf fs,ga:=0,ep:=0,down:=false}
def Wk(iL:Nat)(S:List (Bs×Value))(x:Bs×Nat×bF):Bs×Nat×bF:=if x.1∈S.map (·.1)then x else(x.1,x.2.1,nw iL x.2.2)
def cr(iL:Nat)(S:List (Bs×Value))(fs:oQ):oQ:=fs.map (Wk iL S)
theorem Wl:cr iL (dQ fs) fs=fs:=by
 unfold cr
 conv=>rhs;rw[<-List.map_id fs]
 grind [bQ,Wk]
theorem Wm:nu (cr iL [] fs)=(nu fs).map λx=>(x.1,nw iL x.2):=by
 grind [cr,nu,bQ,Wk]
theorem ag1:dQ (cr iL S fs)=dQ fs:=by
 grind [cr,bQ,Wk]
theorem ag2(hi:i<S.length)(fs:oQ)(hs:S.Sublist (dQ fs))(jd:(fs.map (·.1)).Nodup):
 ∃pre post fb f,S[i]=(S[i].1,au fb)/\(S[i].1,fb,f)∈fs/\cr iL S fs=pre++(S[i].1,fb,f)::post/\cr iL (S.eraseIdx i) fs=pre++(S[i].1,fb,nw iL f)::post:=by
 have iq:S[i]∈dQ fs:=hs.subset (aB hi)
 obtain⟨x,hx,hxe⟩:=bj.1 iq
 obtain⟨A,B,rfl⟩:=List.append_of_mem hx
 have h1:S[i].1=x.1:=by rw[<-hxe]
 have hSnd:(S.map (·.1)).Nodup:=bE
 have hp:(S[i]::S.eraseIdx i).Perm S:=oD S i hi
 have hnot:S[i].1∉(S.eraseIdx i).map (·.1):=by
  grind
 rw[cq,aK]at jd
 obtain⟨_,tH,hn3⟩:=eP.1 jd
 have same:∀y:Bs×Nat×bF,y.1≠x.1->Wk iL (S.eraseIdx i) y=Wk iL S y:=by
  intro y hy;unfold Wk;have:y.1∈(S.eraseIdx i).map (·.1)↔y.1∈S.map (·.1):=by
   grind
  by_cases h5:y.1∈S.map (·.1);all_goals grind
 refine⟨A.map (Wk iL S),B.map (Wk iL S),x.2.1,x.2.2,by rw[<-hxe],by grind,?_,?_⟩
 ·grind [cr,Wk]
 ·unfold cr;rw[cq,aK,h1];congr 1
  ·apply bQ
   grind [List.mem_cons_self]
  ·congr 1
   ·grind [Wk]
   ·apply bQ
    grind
theorem be.ok.ji{s:be}(h:s.ok)(iL:Int):(s.ji iL).ok:=by
 have hle:∀l:List (Bs×bF),gf (l.map λx=>(x.1,nw iL.toNat x.2))<=gf l:=by
  intro l;induction l<;>grind [lT,nw]
 refine⟨?_,U,?_,h.cap,al _,al _,?_,?_⟩
 ·show((s.files.map λx=>(x.1,nw iL.toNat x.2)).map (·.1)).Nodup;rw[cz];exact h.nd
 ·have:=hle s.files;have:=h.vX;have:=h.le;show gf _<=s.cap;omega
 ·intro x hx
  obtain⟨y,hy,rfl⟩:=bj.1 hx
  have:=h.last y hy
  grind [nw]
 ·intro x hx;obtain⟨y,hy,rfl⟩:=bj.1 hx;exact h.name y hy
theorem Kh{l:List (Bs×bF)}{x:Bs×bF}(h:x∈l):x.2.data.length<=gf l:=by
 obtain⟨A,B,rfl⟩:=List.append_of_mem h
 grind [rW,lT]
theorem Wn(iL:Int):
 TR ab G 29 #[au D,.int .i64 iL] [j7 D s] (cb λv B=>v=.int .i64 0/\B=[j7 D (s.ji iL)]):=by
 refine aW U λb β hb hG=>?_
 refine X.fZ D λM bU fs dp j6=>?_
 have jd:(fs.map (·.1)).Nodup:=aY2
 have hcapB:s.used<=4194304:=aj dp.le dp.cap
 have Kc:=dp.vX
 refine xS ?_
 refine rh U U U λr=>xS ?_
 obtain⟨kp,PY⟩:∃k,k=iL.toNat:=⟨_,U⟩
 refine X.loop (ι:={p:List (Bs×Value)×Option (Bs×Value)×Nat // p.1.Sublist (dQ fs)/\p.2.2=gf (nu (cr kp p.1 fs))/\p.2.2<=s.used}) (λp=>([(0,au D),(1,.int .i64 iL),(4,.int .i64 0),(11,au r)],[FF ao r M (dQ fs) p.1.1 p.1.2.1,bx D 74 (DH.cs M {eA s bU with used:=p.1.2.2}),cV ((cr kp p.1.1 fs).map fA)])) (λp=>p.1.1.length) ⟨(dQ fs,none,s.used),List.Sublist.refl _,by grind [Wl],ar _⟩ (Sub.of U) (by dsimp only;rw[Wl];exact aN.refl _) ?_
 rintro⟨⟨S,ko,u⟩,hS,hu,hus⟩ ih
 dsimp only at hS hu hus ih ⊢
 refine xS ?_
 refine wk U U U (λhS0=>?_) (λi hi=>?_)
 ·subst hS0;refine xS ?_;refine zL r ?_;rw[Wm,j6]at hu;have hfm:=ag1 kp [] fs;have pN:nu (cr kp [] fs)=(s.ji iL).files:=by rw[Wm,j6,PY];rfl
  refine xS ?_;refine X.ret hb (.tmps U) ⟨_,⟨U,U⟩,?_⟩;rw[<-hfm];have wm:=qv (D:=D) (M:=M) (s:=s.ji iL) (bU:=bU) (fs:=cr kp [] fs) (dp.ji iL) pN (Hs:=[bx D 74 (DH.cs M (eA (s.ji iL) bU)),mp ao M (dQ (cr kp [] fs)),cV ((cr kp [] fs).map fA)]);refine aN.trans ?_ wm;have hdh:DH.cs M (eA (s.ji iL) bU)=[.int .i64 (eA s bU).cap,.int .i64 u,.map (some M),.int .i64 (eA s bU).bU,.int .i64 0,.int .i64 0,.bool (eA s bU).done,.bool false]:=by
   rw[hu,PY];rfl
  rw[hdh];exact ay
 ·obtain⟨pre,post,fb,f,hSi,hfmem,Z3,hcr'⟩:=ag2 kp S i hi fs hS jd;have hfm2:(S[i].1,f)∈s.files:=by rw[<-j6];exact bj.2 ⟨_,hfmem,U⟩
  have Wo:=dp.last _ hfm2;have hflen:=Kh hfm2;dsimp only at Wo hflen;have RJ:(S.eraseIdx i).Sublist (dQ fs):=(List.eraseIdx_sublist S i).trans hS;have pz:(S.eraseIdx i).length<S.length:=bE;rw[Z3];rw[Z3,nZ,rW,lT]at hu;dsimp only at hu;have hu2:gf (nu (cr kp (S.eraseIdx i) fs))=gf (nu pre)+((nw kp f).data.length+gf (nu post)):=by
   rw[hcr',nZ,rW,lT]
  have hSe:S[i]=(S[i].1,au fb):=hSi;generalize S.eraseIdx i=S2 at*;refine xS ?_;refine zO U U U ?_;rw[show S[i].2=au fb from by rw[hSe]];generalize S[i].1=name at*;generalize S[i]=pd at*;refine xS ?_;refine A6 pre post name fb f λa c=>?_;refine eR 18 [0] ?_;refine xL [0,1,2,3,4,5,6,7,8,9,10,11,12,13,14,15,16,17] ?_;refine xS ?_;obtain⟨m,hm⟩:∃m,m=(nw kp f).last:=⟨_,U⟩;have Mn:(nw kp f).data=f.data.take m:=by rw[hm];rfl
  have hm':m=f.last+min kp (f.data.length - f.last):=hm;have Z4:m<=f.data.length:=av;have rH:nw kp f=⟨f.data.take m,m⟩:=by rw[hm];rfl
  rw[show(f.last:Int)+(if(f.data.length:Int) - (f.last:Int)<(if iL<0 then 0 else iL)then(f.data.length:Int) - (f.last:Int)else(if iL<0 then 0 else iL))=(m:Int)from by omega];refine fM (uC [0,1,2,3,4,5,6,7,8,9,10,11,12,13,14]) [bx D 74 [.int .i64 (eA s bU).cap,.int .i64 u,.map (some M),.int .i64 (eA s bU).bU,.int .i64 (eA s bU).ga,.int .i64 (eA s bU).ep,.bool (eA s bU).done,.bool (eA s bU).down],bx fb 78 [.slice a f.data.length c,.int .i64 m]] U ?_;refine xL [0,1,2,3,4,5,6,7,8,9,10,11,12,13,14] ?_;refine xS ?_;refine fM (uC [0,1,2,3,4,5,6,7,8,9,10,11,12]) [bx fb 78 [.slice a f.data.length c,.int .i64 m]] U ?_;refine xL [0,1,2,3,4,5,6,7,8,9,10,11,12] ?_;refine xS ?_;refine U0 U U U U U U U Z4 (xS ?_);refine Jl m (a:=a) Z4 ?_;rw[yK];have hu9:=@nS pre post name fb ⟨f.data.take m,m⟩ a m;dsimp only at hu9;rw[show(f.data.take m).length=m from by simp;omega]at hu9;rw[Mn,cB]at hu2;rw[rH]at hcr';rw[show((u:Int) - ((f.data.length:Int) - (m:Int)))=((u - (f.data.length - m):Nat):Int)from by omega];refine X.less (ih ⟨(S2,some pd,u - (f.data.length - m)),RJ,by grind,by grind⟩ pz) (Sub.of U) ?_;dsimp only;rw[hcr'];refine aN.trans (aN.es (A:=[bx fb 78 [.slice a m m,.int .i64 m],own 5 1 a m m ((f.data.take m).map fO),cV ((pre++post).map fA)])) ?_;refine aN.trans (hu9 _) ?_;exact aH8
def BY:Rp bn:=⟨λr l x=>∃a c,l=[ao x.name,.slice a x.data.length c]/\(x.data.length<=c/\(a=none->x.data.length=0/\c=0)/\vW RB 1 a x.data r),λhr ⟨a,c,h1,h2,h3,h4⟩=>⟨a,c,h1,h2,h3,h4.mono hr⟩⟩
theorem Pw{b:Frame}{β:bS}{k:Kt}{E:Env}{Hs:List az}{R:Ending->List az->Prop}{cc:Option (Array Oper×List Oper)}{sz o:Nat}(bl:Nat){x:bn}[hf:C2 Hs bl BY sz o x]
 (h:∀a c,x.data.length<=c->(a=none->x.data.length=0/\c=0)->X ab b β cc k E (el (bp (λ_:Unit=>[ao x.name,.slice a x.data.length c])) sz bl o ()::bV RB 1 a x.data::Hs) R):X ab b β cc k E Hs R:=
 au6 bl (Re:=BY) (x:=x) (ι:={p:Option Addr×Nat // x.data.length<=p.2/\(p.1=none->x.data.length=0/\p.2=0)}) (λp=>[ao x.name,.slice p.1.1 x.data.length p.1.2]) (λp=>vW RB 1 p.1.1 x.data) (λp r r' hr h=>h.mono hr)
  (λr l ⟨a,c,h1,h2,h3,h4⟩=>⟨⟨(a,c),h2,h3⟩,h1,h4⟩) (λp=>h p.1.1 p.1.2 p.2.1 p.2.2)
theorem ag5(name:Bs)(sl:Value)(sI:cl sl=some [sl]):TR ab G 22 #[.agg #[ao name,sl]] [] (cT (.bool (!dy name))):=by
 refine cg U λb β hb hG=>?_;refine xP ?_;intro b1;exact xR
theorem RX(xs:List bn)(hn:xs.length=n)(hs:n<=1099511627776):
 TR ab G 61 #[.slice a n c,.func (.func 22) #[] #[]] [bV BY 2 a xs] (cT (aX (cy (λx:bn=> !dy x.name) 0 xs))):=by
 refine aW U λb β hb hG=>xS ?_
 refine eT [0,1] [] (ι:={i:Nat // i<=n/\cy (λx:bn=> !dy x.name) 0 xs=cy (λx:bn=> !dy x.name) i (xs.drop i)}) (λi q_=>(7,aX n)::(8,aX i.1)::q_) (λi q_=>q_) (λi=>n - i.1) ⟨0,al _,U⟩ ?_
 rintro⟨i,hi,hE⟩ ih
 dsimp only
 refine xB ?_ ?_<;>intro h
 ·have hi:i<xs.length:=by grind
  refine xS ?_;refine cH U U U U U hi hn λbl o=>?_;rw[jt _ xs i hi]at hE;generalize xs[i]=x at*;refine Pw bl λa1 c1 Db C9=>xS ?_;refine dF U U U U (xS ?_);refine ng (fst:=[]) (us:=[.agg #[ao x.name,.slice a1 x.data.length c1]]) (cap:=[]) hG (ag5 G x.name (.slice a1 x.data.length c1) U) U U U U  ?_;refine xB ?_ ?_<;>intro h2
  ·exact Xm
  ·exact aJ1
 ·exact aW5
theorem NC(xs:List bn)(hn:xs.length=n)(hs:n<=1099511627776):
 TR ab G 21 #[.slice a n c,.func (.func 22) #[] #[]] [bV BY 2 a xs] (cT (.bool (xs.any λx=> !dy x.name))):=by
 refine aW U λb β hb hG=>?_
 refine xJ (RX G a n c xs hn hs) ?_
 exact bO hb (.tmps U) ⟨by grind [lx,yF],U⟩
def laid:List bn->List (Bs×bF)->Option (List (Bs×bF))
 |[],l=>some l
 |x::r,l=>if x.name∈l.map (·.1)then none else laid r (l++[(x.name,⟨x.data,x.data.length⟩)])
def oT(cap:Int)(l:List bn):Option be×Int:=
 if cap<0\/cap>4194304\/l.length>200\/l.any (λx=> !dy x.name)=true then(none,70)
 else match laid l []with
  |none=>(none,72)
  |some fs=>if gf fs>cap.toNat then(none,73)else(some ⟨cap.toNat,gf fs,fs,0,0,false,false⟩,0)
def bi5(p:Option be×Int)(v:Value)(B:List az):Prop:=match p with
 |(none,e)=>v=.tuple #[.pointer none,.int .i64 e]/\B=[]
 |(some s,e)=>∃D,v=.tuple #[au D,.int .i64 e]/\B=[j7 D s]
theorem aX5(cap:Int)(a:Option Addr)(n c:Nat)(xs:List bn)(hn:xs.length=n)(hs:n<=1099511627776)(hb:∀x∈xs,x.data.length<=1000000000000):
 TR ab G 8 #[.int .i64 cap,.slice a n c] [bV BY 2 a xs] (cb (bi5 (oT cap xs))):=by
 refine aW U λb β l9 hG=>?_
 have bad:∀{N vs k Hs},(cap<0\/cap>4194304\/xs.length>200\/xs.any (λx=> !dy x.name)=true)->lk vs 4=some (.pointer none)->lk vs 5=some (.int .i64 70)->X ab b β none (.it (.code .ret::k)) ⟨N,vs,[]⟩ Hs (cb (bi5 (oT cap xs))):=by
  intro N vs k Hs he h1 h2;exact X.ret l9 (.tmp h1 (.tmp h2 .nil)) ⟨[],by unfold oT;rw[if_pos he];exact⟨U,U⟩,aN.nil _⟩
 refine xT 11 ?_ ?_<;>intro h1
 ·have h1:cap<0:=by grind
  refine xS ?_;exact bad (.inl h1) U U
 ·have h1:¬cap<0:=by grind
  refine xT 15 ?_ ?_<;>intro h2
  ·have h2:cap>4194304:=by grind
   refine xS ?_;exact bad (.inr (.inl h2)) U U
  ·have h2:¬cap>4194304:=by grind
   refine xT 20 ?_ ?_<;>intro h3
   ·have h3:n>200:=by grind
    refine xS ?_;exact bad (.inr (.inr (.inl av))) U U
   ·have h3:¬n>200:=by grind
    refine xJ (NC G a n c xs hn hs) ?_;refine xB ?_ ?_<;>intro h4
    ·refine xS ?_;exact bad (.inr (.inr (.inr h4))) U U
    ·have e0:oT cap xs=match laid xs []with
      |none=>((none,72):Option be×Int)
      |some fs=>if gf fs>cap.toNat then(none,73)else(some ⟨cap.toNat,gf fs,fs,0,0,false,false⟩,0):=by
      grind [oT]
     have sE:∀x∈xs,dy x.name=true:=by
      grind
     obtain⟨cp,rfl⟩:∃k:Nat,cap=k:=⟨cap.toNat,by omega⟩;rw[fG]at e0;clear bad;refine xS ?_;refine qR ao U U λM=>?_;refine xP ?_;intro D;refine X.cd (Hs':=[bV BY 2 a xs,bx D 74 [.int .i64 cp,.int .i64 0,.map (some M),.int .i64 0,.int .i64 0,.int .i64 0,.bool false,.bool false],mp ao M [],cV []]) ((ay (A:=[bx D 74 [.int .i64 cp,.int .i64 0,.map (some M),.int .i64 0,.int .i64 0,.int .i64 0,.bool false,.bool false],mp ao M [],bV BY 2 a xs])).trans ((gp [] _).trans (di ?_))) ?_
     ·refine(cG (l₁:=[_]) (l₂:=[_,_,_])).trans ?_;refine(cG (l₁:=[_,_]) (l₂:=[_,_])).trans ?_;exact(fS _ (cG (l₁:=[_]) (l₂:=[_,_])))
     refine X.loop (ι:={p:Nat×oQ // p.1<=n/\laid xs []=laid (xs.drop p.1) (nu p.2)/\gf (nu p.2)<=p.1*1000000000000/\((nu p.2).map (·.1)).Nodup/\∀x∈nu p.2,x.2.last<=x.2.data.length/\dy x.1=true}) (λp=>([(0,.int .i64 cp),(6,au D),(28,.slice a n c),(29,.int .i64 n),(30,.int .i64 p.1.1)],
      [bV BY 2 a xs,bx D 74 [.int .i64 cp,.int .i64 (gf (nu p.1.2):Nat),.map (some M),.int .i64 0,.int .i64 0,.int .i64 0,.bool false,.bool false],mp ao M (dQ p.1.2),cV (p.1.2.map fA)])) (λp=>n - p.1.1) ⟨(0,[]),al _,U,by decide,List.nodup_nil,λx hx=>by cases hx⟩ (Sub.of U) (aN.refl _) ?_
     rintro⟨⟨i,fs⟩,hi,hE,gE,jd,Ki⟩ ih;dsimp only at hi hE gE jd Ki ih ⊢;refine xB ?_ ?_<;>intro h5
     ·have fw:i<xs.length:=by grind
      have mD:=sE _ (aB fw);have hx3:=hb _ (aB fw);rw[aP fw]at hE;refine xS ?_;refine cH U U U U U fw hn λbl o=>?_;generalize xs[i]=x at*;refine Pw bl λa1 c1 Db C9=>xS ?_;refine dF U U U U  ?_;refine xA ?_;intro b8;refine eR 8 [5,6,0] ?_;apply cW [0,1,2,3,4,5,6,7] U U U
      ·intro p hp;refine xS ?_;refine rJ x.name U U U U ?_;rw[vw];exact aI7
      ·rfl
      ·rfl
      refine xS ?_;rw[laid]at hE;cases hd:kq fs x.name with
      |some y=>
       obtain⟨pre,post,Ue,_⟩:=jR hd;rw[if_pos aX1]at hE;rw[hE]at e0;dsimp only[pv,bH];exact ae0
      |none=>
       have hnn:=pZ hd
       rw[if_neg aX1]at hE
       dsimp only[pv,Option.map_none]
       refine xS ?_
       refine nR [0,1,2,3,4,5,6,7,9,10,11] [5,0] ?_
       refine xL [0,1,2,3,4,5,6,7,9,10,11] ?_
       refine xS ?_
       refine HB a1 ?_
       refine bw (Dr G a1 x.data.length c1 x.data U av C9) ?_
       rintro v B ⟨a8,c8,rfl,rfl⟩
       refine xD ?_
       refine xP ?_
       intro fb
       refine qi x.name bW U U U U ?_
       rw[Ke hnn fb ⟨x.data,x.data.length⟩]
       refine xS ?_
       have hsum2:gf (nu (fs++[(x.name,fb,⟨x.data,x.data.length⟩)]))=gf (nu fs)+x.data.length:=by
        grind [nu,gf]
       have hbnd:gf (nu fs)<=1000000000000000:=av
       refine eR 8 [8,3] ?_
       refine xL [0,1,2,3,4,5,6,7] ?_
       refine xS ?_
       rw[show((gf (nu fs):Nat):Int)+(x.data.length:Int)=((gf (nu (fs++[(x.name,fb,⟨x.data,x.data.length⟩)])):Nat):Int)from by omega]
       refine X.less (ih ⟨(i+1,fs++[(x.name,fb,⟨x.data,x.data.length⟩)]),by omega,by grind [nu],by grind,?_,?_⟩ gm) (Y7 U U U U (eN U nH)) ?_
       ·grind [bD,rV]
       ·grind [nu]
       ·dsimp only;refine aN.trans (aN.es (A:=[bx fb 78 [.slice a8 x.data.length c8,.int .i64 x.data.length],own 5 1 a8 x.data.length c8 (x.data.map fO),cV (fs.map fA)])) ?_;refine aN.trans (Gd (f:=⟨x.data,x.data.length⟩) _) ?_;refine aN.trans (Jn fs (x.name,fb,⟨x.data,x.data.length⟩) _) ?_;exact aH8
     ·have fw:i=xs.length:=by grind
      subst fw;rw[List.drop_length,laid]at hE;rw[hE]at e0;dsimp only at e0;have hbnd:gf (nu fs)<=1000000000000000:=av;refine xB ?_ ?_<;>intro h6
      ·rw[if_pos bE]at e0;exact ae0
      ·have h6:gf (nu fs)<=cp:=by grind
       rw[if_neg av]at e0;refine xS ?_;refine X.ret l9 (.tmps U) ⟨_,by rw[e0];exact⟨D,U,U⟩,?_⟩;have wm:=qv (D:=D) (M:=M) (bU:=0) (s:=⟨cp,gf (nu fs),nu fs,0,0,false,false⟩) (fs:=fs) ⟨jd,U,h6,by grind,al _,al _,λy hy=>(Ki y hy).1,λy hy=>(Ki y hy).2⟩ U
        (Hs:=[bx D 74 (DH.cs M (eA ⟨cp,gf (nu fs),nu fs,0,0,false,false⟩ 0)),mp ao M (dQ fs),cV (fs.map fA)])
       rw[show DH.cs M (eA ⟨cp,gf (nu fs),nu fs,0,0,false,false⟩ 0)=[.int .i64 cp,.int .i64 (gf (nu fs):Nat),.map (some M),.int .i64 0,.int .i64 0,.int .i64 0,.bool false,.bool false]from rfl]at wm;exact aN.trans ay wm
end
section
variable{cs:Array Value}{g:Nat}(G:bZ)(n:Nat)
def sS(s p:Bs):Bool:=decide (p.length<=s.length)&&(s.take p.length==p)
def rz(s p:Bs):Bool:=decide (p.length<=s.length)&&(s.drop (s.length - p.length)==p)
instance ba5(s p:Bs):FJ ab 389 [ao s,ao p] [] (.bool (sS s p)):=⟨λG=>by
 refine aW U λb β hb hG=>?_;refine xT 10 ?_ ?_<;>intro h
 ·have h:p.length<=s.length:=by grind
  refine xS ?_;refine mM U U U Bd.no (Bd.at U U) (al _) h (xS ?_);exact bO hb (.tmps U) ⟨by simp[lx,sS,h],U⟩
 ·have h:¬p.length<=s.length:=by grind
  refine xS ?_;exact bO hb (.tmps U) ⟨by simp[lx,sS,h],U⟩⟩
theorem Ae(s p:Bs)(hs:s.length<=1000000000000):TR ab G 291 #[ao s,ao p] [] (cT ((.bool (rz s p)))):=by
 refine aW U λb β hb hG=>?_;refine xT 10 ?_ ?_<;>intro h
 ·have h:p.length<=s.length:=by grind
  refine xS ?_;refine mM (l:=s.length - p.length) U U U (Bd.at U av) Bd.no (Nat.sub_le _ _) (ar _) ?_;rw[aD nH];exact aL2
 ·have h:¬p.length<=s.length:=by grind
  exact aL2
theorem ND{s p:Bs}(h:sS s p=true):p.length<=s.length:=by grind [sS]
theorem NF{s p:Bs}(h:rz s p=true):p.length<=s.length:=by grind [rz]
def kX(s p:Bs):Bs×Bool:=if sS s p=true then(s.drop p.length,true)else(s,false)
def jF(s p:Bs):Bs×Bool:=if rz s p=true then(s.take (s.length - p.length),true)else(s,false)
instance ba6(s p:Bs):FJ ab 292 [ao s,ao p] [] (.tuple #[ao (kX s p).1,.bool (kX s p).2]):=⟨λG=>by
 refine aW U λb β hb hG=>?_;unfold kX;refine xB ?_ ?_<;>intro h
 ·have h:¬sS s p=true:=by grind
  rw[if_neg h];exact xR
 ·have h:sS s p=true:=by grind
  rw[if_pos h];have hl:=ND h;refine xS ?_;refine mM (l:=p.length) U U U (Bd.at U U) Bd.no hl (ar _) ?_;rw[aD nH];refine xS ?_;exact bO hb (.tmps U) ⟨U,U⟩⟩
theorem RY(s p:Bs)(hs:s.length<=1000000000000):TR ab G 293 #[ao s,ao p] [] (cT ((.tuple #[ao (jF s p).1,.bool (jF s p).2]))):=by
 refine aW U λb β hb hG=>?_;unfold jF;refine xJ (Ae G s p hs) ?_;refine xB ?_ ?_<;>intro h
 ·exact bA3
 ·have h:rz s p=true:=by grind
  exact Vj
theorem NG(s p:Bs)(hs:s.length<=1000000000000):TR ab G 467 #[ao s,ao p] [] (cT ((ao (jF s p).1))):=by
 refine aW U λb β hb hG=>?_;unfold jF;refine xJ (Ae G s p hs) ?_;refine xB ?_ ?_<;>intro h
 ·exact Vj
 ·exact bA3
theorem ag6(s p:Bs)(hs:s.length<=1000000000000):TR ab G 182 #[ao s,ao p] [] (cT ((.bool (rz s p)))):=by
 refine aW U λb β hb hG=>?_;refine xJ (Ae G s p hs) ?_;exact xR
instance br9(s p:Bs):FJ ab 393 [ao s,ao p] [] (.bool (sS s p)):=⟨λG=>by
 refine aW U λb β hb hG=>xS ?_;exact bO hb (.tmps U) ⟨U,U⟩⟩
instance bs0(s p:Bs):FJ ab 183 [ao s,ao p] [] (.tuple #[ao (kX s p).1,.bool (kX s p).2]):=⟨λG=>by
 refine aW U λb β hb hG=>xS ?_;exact bO hb (.tmps U) ⟨U,U⟩⟩
theorem ag7(s p:Bs)(hs:s.length<=1000000000000):TR ab G 184 #[ao s,ao p] [] (cT ((.tuple #[ao (jF s p).1,.bool (jF s p).2]))):=by
 refine aW U λb β hb hG=>?_;refine xJ (RY G s p hs) ?_;exact xR
theorem ag8(s p:Bs)(hs:s.length<=1000000000000):TR ab G 399 #[ao s,ao p] [] (cT ((ao (jF s p).1))):=by
 refine aW U λb β hb hG=>?_;refine xJ (NG G s p hs) ?_;exact xR
theorem Wp(hn:n<=8):TR ab G 464 #[.int .u64 1,.int .u64 n] [] (cT (.tuple #[.int .u64 0,.int .u64 n])):=by
 have:n=0\/n=1\/n=2\/n=3\/n=4\/n=5\/n=6\/n=7\/n=8:=av;rcases this with rfl|rfl|rfl|rfl|rfl|rfl|rfl|rfl|rfl;all_goals
  refine aW U λb β hb hG=>?_
  exact xR
theorem wT(hn:n<=8):TR ab G 392 #[.int .u64 1,.int .u64 n] [] (cT (.tuple #[.int .u64 0,.int .u64 n])):=by
 refine aW U λb β hb hG=>?_;refine xJ (Wp G n hn) ?_;exact xR
theorem RZ(hn:n<=8):TR ab G 295 #[ao [48],.int .i64 n] [] (cT (ao (bI n 48))):=by
 have h0:n=0\/n=1\/n=2\/n=3\/n=4\/n=5\/n=6\/n=7\/n=8:=av;rcases h0 with rfl|rfl|h0
 ·refine aW U λb β hb hG=>?_;exact xR
 ·refine aW U λb β hb hG=>?_;exact xR
 ·rcases h0 with rfl|rfl|rfl|rfl|rfl|rfl|rfl
  ·refine aW U λb β hb hG=>?_;refine xJ (wT G 2 de) ?_;refine kz (l:=[48]) (j:=0) U U U U U (Nat.lt_succ_self 0) (xS ?_);refine mM (s:=bI 64 48) (h:=2) U U U Bd.no (Bd.at U U) (al _) de  ?_;exact xR
  ·refine aW U λb β hb hG=>?_;refine xJ (wT G 3 de) ?_;refine kz (l:=[48]) (j:=0) U U U U U (Nat.lt_succ_self 0) (xS ?_);refine mM (s:=bI 64 48) (h:=3) U U U Bd.no (Bd.at U U) (al _) de  ?_;exact xR
  ·refine aW U λb β hb hG=>?_;refine xJ (wT G 4 de) ?_;refine kz (l:=[48]) (j:=0) U U U U U (Nat.lt_succ_self 0) (xS ?_);refine mM (s:=bI 64 48) (h:=4) U U U Bd.no (Bd.at U U) (al _) de  ?_;exact xR
  ·refine aW U λb β hb hG=>?_;refine xJ (wT G 5 de) ?_;refine kz (l:=[48]) (j:=0) U U U U U (Nat.lt_succ_self 0) (xS ?_);refine mM (s:=bI 64 48) (h:=5) U U U Bd.no (Bd.at U U) (al _) de  ?_;exact xR
  ·refine aW U λb β hb hG=>?_;refine xJ (wT G 6 de) ?_;refine kz (l:=[48]) (j:=0) U U U U U (Nat.lt_succ_self 0) (xS ?_);refine mM (s:=bI 64 48) (h:=6) U U U Bd.no (Bd.at U U) (al _) de  ?_;exact xR
  ·refine aW U λb β hb hG=>?_;refine xJ (wT G 7 de) ?_;refine kz (l:=[48]) (j:=0) U U U U U (Nat.lt_succ_self 0) (xS ?_);refine mM (s:=bI 64 48) (h:=7) U U U Bd.no (Bd.at U U) (al _) de  ?_;exact xR
  ·refine aW U λb β hb hG=>?_;refine xJ (wT G 8 de) ?_;refine kz (l:=[48]) (j:=0) U U U U U (Nat.lt_succ_self 0) (xS ?_);refine mM (s:=bI 64 48) (h:=8) U U U Bd.no (Bd.at U U) (al _) de  ?_;exact xR
def Wq:List Int:=[0,1,56,2,57,49,28,3,61,58,42,50,38,29,17,4,62,47,59,36,45,43,51,22,53,39,33,30,24,18,12,5,63,55,48,27,60,41,37,16,46,35,44,21,52,32,23,11,54,26,40,15,34,20,31,10,25,14,19,9,13,8,7,6]
def Ws:List Int:=[1,10,100,1000,10000,100000,1000000,10000000,100000000,1000000000,10000000000,100000000000,1000000000000,10000000000000,100000000000000,1000000000000000,10000000000000000,100000000000000000,1000000000000000000,10000000000000000000]
def qZ:List Bs:=[[],[],[115,101,103,45],[46,108,111,103],[115,101,103,45],[46,104,105,110,116],[98,97,100,45],[46,98,105,110]]
structure GGp(r:Hp):Prop where
 tz:BS r 11 0 (Wq.map λx=>.int .u8 x)
 p10:BS r 5 0 (Ws.map λx=>.int .u64 x)
 Wt:BS r 3 0 (qZ.map ao)
 sp:∃t f,r 0=some (.cells (Lib.asciiSpaceTab.map λz=>eL .u8 z).toArray t f)
 aX6:∃t f,r 5=some (.cells (Lib.pow10Tab.map λz=>eL .u64 z).toArray t f)
 e8:∃t p,BS r 8 0 [.iface t p]
 e9:∃t p,BS r 9 0 [.iface t p]
 e1:BS r 1 0 [.iface 301 (.agg #[.pointer (some ⟨13,62,none⟩)])]
def GG:bZ:=⟨GGp,λhr h=>⟨h.tz.mono hr,h.p10.mono hr,h.Wt.mono hr,(let⟨t,f,q⟩:=h.sp;⟨t,f,hr _ _ q⟩),(let⟨t,f,q⟩:=h.aX6;⟨t,f,hr _ _ q⟩),(let⟨t,p,q⟩:=h.e8;⟨t,p,q.mono hr⟩),(let⟨t,p,q⟩:=h.e9;⟨t,p,q.mono hr⟩),h.e1.mono hr⟩,false⟩
instance:Ug ab 587 64 5:=⟨Tryz.underlying587⟩
instance:Ug ab 293 4 292:=⟨Tryz.underlying293⟩
instance:Ug ab 484 65 5:=⟨Tryz.underlying484⟩
theorem ag9:TR ab GG 430 #[.int .u64 16] [] (cT (.int .i64 4)):=by
 refine cg U λb β hb hG=>xS ?_;refine yb (j:=15) U U U U cA de ?_;refine Jj 11 (0+15) [.int .u8 4] ((BS.sub hG.1.tz (m:=[.int .u8 4]) (i:=15)) ?_) ?_
 ·intro j v hj;match j with
  |0=>simpa[Wq]using hj
  |j+1=>simp at hj
 refine uo U U U 0 U U  ?_;exact xR
theorem bi6:TR ab GG 360 #[.int .u64 16] [] (cT (.int .i64 4)):=by
 refine cg U λb β hb hG=>?_;refine xJ ag9 ?_;exact xR
def lV(n:Nat):UInt8:=if n<10 then cu (48+n)else cu (87+n)
def Ie:Nat->Nat->Bs
 |0,_=>[]
 |f+1,u=>if u<16 then[lV u]else Ie f (u / 16)++[lV (u%16)]
def If(u:Nat):Bs:=Ie 17 u
def d36:Bs:=[48,49,50,51,52,53,54,55,56,57,97,98,99,100,101,102,103,104,105,106,107,108,109,110,111,112,113,114,115,116,117,118,119,120,121,122]
theorem PZ(h:n<16)(h2:n<d36.length):d36[n]=lV n:=by
 have:∀n:Fin 16,d36[n.val]'(Nat.lt_of_lt_of_le n.isLt de)=lV n.val:=de;exact this ⟨n,h⟩
theorem Kj(A B:List Value)(z v:Value):Fz A.length (A++z::B) [v]=some (A++v::B):=by
 induction A with
 |nil=>cases B<;>rfl
 |cons x r ih=>
  grind [Fz]
section
set_option maxRecDepth 100000
theorem wU{w:World}{n:String}(hg:ab.globalNamed n=some g)(hv:w.var? ab n=some cs):∃t f,hp w g=some (.cells cs t f):=by
 unfold World.var? at hv;rw[hg]at hv;simp only[Option.bind_some]at hv;unfold hp;split at hv
 ·rename_i c t f h;cases hv;exact⟨t,f,h⟩
 ·cases hv
theorem Kk{r:Hp}{l:List Value}{t:TypeId}{f:Nat×Nat}(h:r g=some (.cells cs t f))(hl:cs.toList=l):BS r g 0 l:=
 ⟨cs,t,f,h,λj v hj=>by rw[aQ,<-cZ,hl];exact hj⟩
theorem g11:ab.globalNamed "math/bits.deBruijn64tab"=some 11:=cA
theorem g5:ab.globalNamed "internal/strconv.uint64pow10"=some 5:=cA
theorem g1:ab.globalNamed "errors.errorType"=some 1:=cA
theorem g9:ab.globalNamed "strconv.ErrRange"=some 9:=cA
theorem g8:ab.globalNamed "strconv.ErrSyntax"=some 8:=cA
theorem g0:ab.globalNamed "strings.asciiSpace"=some 0:=cA
theorem g3:ab.globalNamed "salvor/names.forms"=some 3:=cA
theorem bv0:(ab.globals[11]?).map (·.type)=some 587:=cA
theorem gt5:(ab.globals[5]?).map (·.type)=some 483:=cA
theorem gt9:(ab.globals[9]?).map (·.type)=some 62:=cA
theorem gt8:(ab.globals[8]?).map (·.type)=some 62:=cA
theorem gt0:(ab.globals[0]?).map (·.type)=some 170:=cA
theorem gt3:(ab.globals[3]?).map (·.type)=some 293:=cA
theorem co5:ab.cellsOf 5=1:=cA
theorem bv1:ab.cellsOf 87=1:=cA
theorem co9:ab.cellsOf 9=1:=cA
theorem bi7:ab.cellsOf 292=2:=cA
theorem bi8:ab.cellsOf 587=64:=cA
theorem bi9:ab.cellsOf 483=20:=cA
theorem bj0:ab.cellsOf 170=256:=cA
theorem rt1:(ab.cutTypes.find? (·.1== "internal/reflectlite.rtype")).map (·.2)=some 301:=cA
theorem th1:typeHandle ab 62=.pointer (some ⟨13,62,none⟩):=cA
theorem tsz:ab.types.size=636:=cA
theorem bv2:((List.range 636).filter λt=>ab.rowNamed t [101,114,114,111,114])=[62]:=cA
theorem Wu{s:ByteArray}{l:Bs}(h:s.data.toList=l):Value.string s=ao l:=by
 obtain⟨a⟩:=s;subst h;rfl
def uK:List (String×DataW Unit):=YtcicblljnenhoaaGreatDoor.Rows.labOnwardRow.laid
theorem Kl{P:Program}{w:World}:∀{l:List (String×DataW Unit)} {ps:List MemPlace},DataW.LaidVars P w l ps->∀{n:String} {d:DataW Unit},(n,d)∈l->∃g t cs fuel p,P.globalNamed n=some g/\(P.globals[g]?).map (·.type)=some t/\w.var? P n=some cs/\DataW.trod (λ_=>()) P w 0 (λ_=>true) false fuel t cs.toList=some (d,p)
 |[],_,_,_,_,h=>by cases h
 |_::r,_,⟨g,t,cs,fuel,p,q,h1,h2,h3,h4,h5,_⟩,n,d,h=>by
  rcases bK.1 h with h|h
  ·cases h;exact⟨g,t,cs,fuel,p,h1,h2,h3,h4⟩
  ·exact Kl h5 h
open YtcicblljnenhoaaGreatDoor.Rows in
theorem ah0{W:World}(h:laidMetH ab uK W):GGp (hp W):=by
 obtain⟨⟨ps,hL,_⟩,h2⟩:=laidMetH_iff.1 h
 have M:∀{n:String} {d:DataW Unit},(n,d)∈uK->(d.handleName?.isNone=true)->_:=λhm hn=>Kl hL (dZ.2 ⟨hm,hn⟩)
 obtain⟨g1',t1,cs1,u1,p1,hg1,ht1,hv1,ZZ⟩:=M (n:= "math/bits.deBruijn64tab") (d:=laid_math_bits_deBruijn64tab) bz9 U
 obtain⟨g2',t2,cs2,u2,p2,hg2,ht2,hv2,Z5⟩:=M (n:= "internal/strconv.uint64pow10") (d:=laid_internal_strconv_uint64pow10) bz9 U
 obtain⟨g4',t4,cs4,u4,p4,hg4,ht4,hv4,hd4⟩:=M (n:= "strconv.ErrRange") (d:=laid_strconv_ErrRange) bz9 U
 obtain⟨g5',t5,cs5,u5,p5,hg5,ht5,hv5,hd5⟩:=M (n:= "strconv.ErrSyntax") (d:=laid_strconv_ErrSyntax) bz9 U
 obtain⟨g7',t7,cs7,u7,p7,hg7,ht7,hv7,hd7⟩:=M (n:= "strings.asciiSpace") (d:=laid_strings_asciiSpace) bz9 U
 obtain⟨g8',t8,cs8,u8,p8,hg8,ht8,hv8,hd8⟩:=M (n:= "salvor/names.forms") (d:=laid_salvor_names_forms) bz9 U
 obtain rfl:=dN (g11.symm.trans hg1)
 obtain rfl:=dN (bv0.symm.trans ht1)
 obtain rfl:=dN (g5.symm.trans hg2)
 obtain rfl:=dN (gt5.symm.trans ht2)
 obtain rfl:=dN (g9.symm.trans hg4)
 obtain rfl:=dN (gt9.symm.trans ht4)
 obtain rfl:=dN (g8.symm.trans hg5)
 obtain rfl:=dN (gt8.symm.trans ht5)
 obtain rfl:=dN (g0.symm.trans hg7)
 obtain rfl:=dN (gt0.symm.trans ht7)
 obtain rfl:=dN (g3.symm.trans hg8)
 obtain rfl:=dN (gt3.symm.trans ht8)
 obtain⟨a1,b1,c1⟩:=wU g11 hv1
 obtain⟨a2,b2,c2⟩:=wU g5 hv2
 obtain⟨a4,b4,c4⟩:=wU g9 hv4
 obtain⟨a5,b5,c5⟩:=wU g8 hv5
 obtain⟨a7,b7,c7⟩:=wU g0 hv7
 obtain⟨a8,b8,c8⟩:=wU g3 hv8
 have e1:(laid_math_bits_deBruijn64tab:DataW Unit)=Lib.tabData .u8 Wq:=cA
 have e2:(laid_internal_strconv_uint64pow10:DataW Unit)=Lib.tabData .u64 Lib.pow10Tab:=cA
 have e7:(laid_strings_asciiSpace:DataW Unit)=Lib.tabData .u8 Lib.asciiSpaceTab:=cA
 rw[e1]at ZZ
 rw[e2]at Z5
 rw[e7]at hd7
 have l1:=Lib.cells_of_tab Tryz.underlying587 fX co5 bi8 ZZ
 have l2:=Lib.cells_of_tab Tryz.underlying483 eO bv1 bi9 Z5
 have l7:=Lib.cells_of_tab Tryz.underlying170 fX co5 bj0 hd7
 have arr:∀{cs:Array Value} {l:List Value},cs.toList=l->cs=l.toArray:=λ{cs l} h=>by subst h;simp
 have p10:(Lib.pow10Tab.map λz=>eL .u64 z)=Ws.map λz=>eL .u64 z:=by kernel_rfl
 refine⟨Kk c1 l1,Kk c2 (l2.trans p10),?_,⟨a7,b7,by rw[c7,arr l7]⟩,⟨a2,b2,by rw[c2,arr l2]⟩,?_,?_,?_⟩
 ·
  obtain⟨xs,m,rfl,hx,hlen,hxl,Gk⟩:=DataW.trod_array Tryz.underlying293 hd8
  rw[bi7]at Gk
  have HZ:=congrArg Prod.fst hx
  have HZ:(laid_salvor_names_forms:DataW Unit)=.agg (xs.map (·.1)):=HZ
  unfold laid_salvor_names_forms at HZ
  match xs,hxl,HZ,Gk with
  |[x0,x1,x2,x3],_,HZ,Gk=>
   simp only[aK,ie,DataW.agg.injEq,List.cons.injEq,and_true]at HZ;obtain⟨y0,y1,y2,y3⟩:=HZ;have two:∀(i:Nat) (x:DataW Unit×List MemPlace) (a b:Bs),DataW.trod (λ_=>()) ab W 0 (λ_=>true) false m 292 ((cs8.toList.drop (i*2)).take 2)=some x->(.agg [.lit (.string a),.lit (.string b)]:DataW Unit)=x.1->cs8.toList[i*2]?=some (ao a)/\cs8.toList[i*2+1]?=some (ao b):=by
    intro i x a b hd hx;obtain⟨zs,n,rfl,rfl,pz,hz,hf⟩:=DataW.trod_struct Tryz.underlying292 hd;have f0:DataW.trod (λ_=>()) ab W 0 (λ_=>true) false n 9 (List.take (ab.cellsOf 9) (List.drop 0 (List.take 2 (List.drop (i*2) cs8.toList))))=zs[0]?:=hf 0 _ U;have f1:DataW.trod (λ_=>()) ab W 0 (λ_=>true) false n 9 (List.take (ab.cellsOf 9) (List.drop 1 (List.take 2 (List.drop (i*2) cs8.toList))))=zs[1]?:=hf 1 _ U;rw[co9]at f0 f1;match zs,hz,hx,f0,f1 with
    |[z0,z1],_,hx,f0,f1=>
     simp only[aK,ie,DataW.agg.injEq,List.cons.injEq,and_true]at hx;obtain⟨s0,Wv,hz0,_⟩:=DataW.trod_string cO f0;obtain⟨s1,Bi,Gn,_⟩:=DataW.trod_string cO f1;subst hz0 Gn;simp only[DataW.lit.injEq,Lit.string.injEq]at hx;have k0:=congrArg (λl=>l[0]?) Wv;have k1:=congrArg (λl=>l[0]?) Bi;simp only[List.getElem?_take,List.getElem?_drop,List.getElem?_cons_zero]at k0 k1;refine⟨?_,?_⟩
     ·rw[<-Wu hx.1.symm];simpa using k0
     ·rw[<-Wu hx.2.symm];simpa[Nat.add_comm]using k1
   obtain⟨w0,v0⟩:=two 0 x0 _ _ (Gk 0 de) y0;obtain⟨w1,v1⟩:=two 1 x1 _ _ (Gk 1 de) y1;obtain⟨w2,v2⟩:=two 2 x2 _ _ (Gk 2 de) y2;obtain⟨w3,v3⟩:=two 3 x3 _ _ (Gk 3 de) y3;refine⟨cs8,a8,b8,c8,λj v hj=>?_⟩;rw[aQ,<-cZ];match j,hj with
   |0,hj=>rw[w0];exact hj
   |1,hj=>rw[v0];exact hj
   |2,hj=>rw[w1];exact hj
   |3,hj=>rw[v1];exact hj
   |4,hj=>rw[w2];exact hj
   |5,hj=>rw[v2];exact hj
   |6,hj=>rw[w3];exact hj
   |7,hj=>rw[v3];exact hj
   |j+8,hj=>simp[qZ]at hj
 ·obtain⟨_,u,v,hc,_,_⟩:=iface_of_trod Tryz.underlying62 hd5;exact⟨u,v,Kk c5 hc⟩
 ·obtain⟨_,u,v,hc,_,_⟩:=iface_of_trod Tryz.underlying62 hd4;exact⟨u,v,Kk c4 hc⟩
 ·obtain⟨name,u,ty,e1,e2,e3,e4,e5⟩:=h2 ("errors.errorType",laid_errors_errorType) (dZ.2 ⟨by unfold uK labOnwardRow;repeat(first|exact List.mem_cons_self|apply List.mem_cons_of_mem),rfl⟩);have en:name=[101,114,114,111,114]:=(dN e1).symm;subst en;obtain rfl:=dN (rt1.symm.trans e2);have hm:ty∈(List.range 636).filter λt=>ab.rowNamed t [101,114,114,111,114]:=dZ.2 ⟨List.mem_range.2 (by rw[<-tsz];exact e3),e4⟩;rw[bv2]at hm;obtain rfl:=bD.1 hm;rw[th1]at e5;obtain⟨a,b,c⟩:=wU g1 e5;exact Kk c U
end
end
end Go.Proofs
namespace Go.Proofs
open Go Go.Sl YtcicblljnenhoaaGreatDoor
set_option maxRecDepth 8000
section
set_option maxRecDepth 100000
def lc:DataW Unit->List Value
 |.lit (.int k z)=>[.int k z]
 |.lit (.string b)=>[.string ⟨b.toArray⟩]
 |_=>[]
def lc2:DataW Unit->List Value
 |.agg l=>l.flatMap lc
 |d=>lc d
def lc3:DataW Unit->List Value
 |.agg l=>l.flatMap lc2
 |d=>lc d
def BZ(cs:List Value):Obj->Obj
 |.cells _ t f=>.cells cs.toArray t f
 |o=>o
def bv3(l:List Int):List Value:=l.map λz=>.int .u16 z
open YtcicblljnenhoaaGreatDoor.Rows in
noncomputable def lw(os:Os):World:=
 let w0:=World.holding ab os ⟨#[],#[],[]⟩
 {w0 with heap:=((((((((((((((((w0.heap.modify 0 (BZ (lc3 laid_strings_asciiSpace))).modify 1 (BZ [.iface 301 (.agg #[.pointer (some ⟨13,62,none⟩)])])).modify 2 (BZ [.pointer (some ⟨21,0,none⟩)])).modify 3 (BZ (lc3 laid_salvor_names_forms))).modify 5 (BZ (lc3 laid_internal_strconv_uint64pow10))).modify 6 (BZ (lc3 laid_unicode_utf8_first))).modify 7 (BZ (lc3 laid_unicode_utf8_acceptRanges))).modify 8 (BZ [.iface 583 (.pointer (some ⟨19,0,none⟩))])).modify 9 (BZ [.iface 583 (.pointer (some ⟨18,0,none⟩))])).modify 10 (BZ (lc3 laid_math_bits_deBruijn32tab))).modify 11 (BZ (lc3 laid_math_bits_deBruijn64tab))).modify 12 (BZ [.pointer (some ⟨21,0,none⟩)])).push (.cells #[ao [118,97,108,117,101,32,111,117,116,32,111,102,32,114,97,110,103,101]] 585 (0,0))).push (.cells #[ao [105,110,118,97,108,105,100,32,115,121,110,116,97,120]] 585 (0,0))).push (.cells (bv3 [9,13,1,32,133,101,160,5760,5600,8192,8202,1,8232,8233,1,8239,8287,48,12288,12288,1]).toArray 375 (0,0))).push (.cells #[.slice (some ⟨20,0,none⟩) 7 7,.slice none 0 0,.int .i64 2] 372 (0,0)))}
noncomputable abbrev lm(os:Os)(args:Array Value):World:=(lw os).forCall (λ_ _=>0) ⟨#[],args,[]⟩
end
end Go.Proofs
namespace Go.Proofs
open Go.Sl
open Go.ChangeShapes Go.WideShapes Go.RowKit
set_option maxRecDepth 8000
section
set_option maxRecDepth 100000
theorem ZQ{f:Nat}{args:Array Value}{v:Value}(h:TR ab GG f args [] (cT v)){W:World}(hg:GGp (hp W)):Calls ab f args W λe W'=>e=.returned v/\W.keptBut W' (λ_=>False):=by
 refine(h ⟨W,hp W,fL,false⟩ W ⟨hg,λh=>by cases h⟩ ?_).mono ?_
 ·exact⟨hp W,fL,Hp.le.refl _,⟨Hp.le.refl _,cJ _,cJ _,λn=>.inr U,λn=>.inr U,λn=>.inr U⟩,trivial,wH.refl W⟩
 ·rintro e W' ⟨B,hR,r,o,h1,h2,_,h3⟩;have he:e=.returned v:=by
   cases e with
   |returned u=>exact congrArg Ending.returned hR.1
   |_=>exact hR.elim
  refine⟨he,h3.1,h3.2.2.1,λi hi=>?_⟩;obtain⟨x,hx⟩:∃x,W.heap[i]?=some x:=⟨W.heap[i],Array.getElem?_eq_getElem hi⟩;have hx':W'.heap[i]?=some x:=h2.r _ _ (h1 _ _ hx);rw[hx,hx'];cases x with
  |cells c t f=>exact⟨U,U,U,λ_ _=>rfl⟩
  |map es clock=>exact .inr ⟨U,U⟩
  |_=>rfl
theorem by5:ownKnob ab.godebug=none:=cA
end
end Go.Proofs
namespace Go.Proofs
open Go.Sl
set_option maxRecDepth 8000
section
variable{cs:List Value}{rs Hs:List az}{w:World}{x:Value}{β:bS}(G:bZ)(bl:Nat)(l:List UInt8)
abbrev Jv:Go.Conc.Locks.MuLink:={lock:=70,unlock:=71,ilock:=132,iunlock:=133,lockSlow:=197,unlockSlow:=200,disable:=193,enable:=195,acquire:=196,relMerge:=198,cas32:=194,add32:=199,tMutex:=143,tIMutex:=141,tPMutex:=205,tPIMutex:=313,tPI32:=315,tUP:=173,tNoCopy:=138,tU32:=139}
theorem CH:Go.Conc.Locks.MuLib ab Jv:=
 ⟨Tryz.func70,Tryz.func71,Tryz.func132,Tryz.func133,Tryz.func193,Tryz.func195,Tryz.func196,Tryz.func198,Tryz.func194,Tryz.func199,Tryz.underlying141,Tryz.runUnderlying141,Tryz.sizeOf141,Tryz.isAgg141,Tryz.zeroValue141,Tryz.underlying143,Tryz.runUnderlying143,Tryz.sizeOf143,Tryz.isAgg143,Tryz.zeroValue143,Tryz.underlying205,Tryz.runUnderlying205,Tryz.sizeOf205,Tryz.isAgg205,Tryz.zeroValue205,Tryz.underlying313,Tryz.runUnderlying313,Tryz.sizeOf313,Tryz.isAgg313,Tryz.zeroValue313,Tryz.underlying315,Tryz.runUnderlying315,Tryz.sizeOf315,Tryz.isAgg315,Tryz.zeroValue315,Tryz.underlying173,Tryz.runUnderlying173,Tryz.sizeOf173,Tryz.isAgg173,Tryz.zeroValue173,Tryz.underlying138,Tryz.runUnderlying138,Tryz.sizeOf138,Tryz.isAgg138,Tryz.zeroValue138,Tryz.underlying21,Tryz.runUnderlying21,Tryz.sizeOf21,Tryz.isAgg21,Tryz.zeroValue21,cA⟩
theorem x7{b ty:Nat}{y:Value}(h:Sat β (bx b ty (x::cs)::Hs) w):Sat β (bx b ty (y::cs)::Hs) (w.setCell ⟨b,0,none⟩ y):=by
 have hb:=dS h;refine Sat.put h ⟨U,U,U,by simp[World.setCell],λ_=>ar _⟩ ?_ ?_;all_goals grind [World.setCell]
theorem Ge{b ty:Nat}(h:Sat β (bx b ty (x::cs)::Hs) w):w.cell? ⟨b,0,none⟩=some x/\w.frozen? ⟨b,0,none⟩=false:=by
 have hb:=dS h
 grind [gj,World.frozen?]
theorem ah3(b ty:Nat)(cs:List Value):TR ab G 70 #[au b] [bx b ty (.int .i32 0::cs)] (cb λv B=>v=.tuple #[]/\B=[bx b ty (.int .i32 1::cs)]):=by
 intro β w _ hs;obtain⟨h1,h2⟩:=Ge hs;refine(Go.MuLone.lock_free CH ⟨b,0,none⟩ w h1 h2).mono ?_;rintro e w' ⟨rfl,rfl⟩;exact⟨_,⟨U,U⟩,x7 hs⟩
theorem R3(b ty:Nat)(cs:List Value):TD ab G 71 (([au b]:List Value)++[]).toArray [bx b ty (.int .i32 1::cs)] [bx b ty (.int .i32 0::cs)]:=by
 intro β w _ hs u
 obtain⟨h1,h2⟩:=Ge hs
 refine(Go.MuLone.unlock_deferred CH ⟨b,0,none⟩ u w h1 h2).mono ?_
 grind [x7]
instance:TUp ab 173:=⟨Tryz.underlying173⟩
instance:CX ab 96 Extern.AbiNoEscape.same:=⟨λargs w=>run_callFunc_extern (fn:=Tryz.f96) U U U U U args w⟩
def NI(b:Nat)(l:List UInt8):az:=ex λp:Bool×Option Addr×Nat=>[bx b 57 [.pointer (if p.1 then some ⟨b,0,none⟩else none),.slice p.2.1 l.length p.2.2],own 5 1 p.2.1 l.length p.2.2 (l.map fO)]
section
variable {P:Program}{b:Frame}{β:bS}{k:Kt}{Hs:List az}{R:Ending->List az->Prop}{cc:Option (Array Oper×List Oper)}{E:Env}
theorem Uw[hf:FB Hs bl 57 cs rs](sD:cs=[.pointer none,.slice none 0 0])(h:X P b β cc k E (NI bl []::rs) R):X P b β cc k E Hs R:=by
 subst sD
 refine X.cd hf.out (wh (Hs':=NI bl []::rs) (λβ w hs=>?_) h)
 have h:=iZ (e:=5) (sz:=1) hs
 refine Sat.cd h ?_
 refine(cQ _ _ _).trans ?_
 exact gU (ι:=Bool×Option Addr×Nat) (f:=λp=>[bx bl 57 [.pointer (if p.1 then some ⟨bl,0,none⟩else none),.slice p.2.1 ([]:List UInt8).length p.2.2],own 5 1 p.2.1 ([]:List UInt8).length p.2.2 (([]:List UInt8).map fO)]) (false,none,0) rs
theorem UD{l:List UInt8}[hf:FK Hs NI bl l rs](h:∀(q:Bool) a c,X P b β cc k E (bx bl 57 [.pointer (if q then some ⟨bl,0,none⟩else none),.slice a l.length c]::own 5 1 a l.length c (l.map fO)::rs) R):X P b β cc k E Hs R:=
 jo λ_ hs=>let⟨i,hi⟩:=iX (hs.cd hf.out);⟨_,hi,h i.1 i.2.1 i.2.2⟩
theorem au7{a:Option Addr}{c n:Nat}{xs:List Value}{Jc:List az}[hf:FB Hs bl 57 cs rs][ho:FO rs a 5 1 n c xs Jc](sD:cs=[.pointer (some ⟨bl,0,none⟩),.slice a n c])(hn:n=l.length)(hx:xs=l.map fO)(h:X P b β cc k E (NI bl l::Jc) R):X P b β cc k E Hs R:=by
 subst sD hn hx
 exact X.cd ((hf.out.trans (aN.cons _ ho.out)).trans (gU (ι:=Bool×Option Addr×Nat) (f:=λp=>[bx bl 57 [.pointer (if p.1 then some ⟨bl,0,none⟩else none),.slice p.2.1 l.length p.2.2],own 5 1 p.2.1 l.length p.2.2 (l.map fO)]) (true,a,c) Jc)) h
end
theorem yN(q:Bool)(v:Value):TR ab G 59 #[au bl] [bx bl 57 [.pointer (if q then some ⟨bl,0,none⟩else none),v]] (cb λu B=>u=.tuple #[]/\B=[bx bl 57 [.pointer (some ⟨bl,0,none⟩),v]]):=by
 refine cg U λb β hb hG=>?_;cases q with
 |false=>
  simp only[bY,if_false];refine xS ?_;refine be8 U U U U U (xS ?_);refine CW U U U (λw _=>rfl) (xS ?_);refine bb6 U U U U U (xS ?_);exact aK0
 |true=>
  simp only[if_true];refine xS ?_;refine ab5 U U U U (xS ?_);exact aK0
theorem Dw(m:List UInt8)(hs:l.length+m.length<=140737488355328):TR ab G 18 #[au bl,ao m] [NI bl l] (cb λu B=>u=.tuple #[aX m.length,.nilIface]/\B=[NI bl (l++m)]):=by
 refine aW U λb β hb hG=>?_;refine UD bl λq a c=>xS ?_;refine bw (yN G bl q (.slice a l.length c)) ?_;rintro _ _ ⟨rfl,rfl⟩;refine xD ?_;refine Cg U U U U av λa2 c2=>xS ?_;refine au7 bl (l++m) U U U ?_;exact az5
theorem jf(x:UInt8)(hs:l.length<140737488355328):TR ab G 157 #[au bl,fO x] [NI bl l] (cb λu B=>u=.nilIface/\B=[NI bl (l++[x])]):=by
 refine aW U λb β hb hG=>?_;refine UD bl λq a c=>xS ?_;refine bw (yN G bl q (.slice a l.length c)) ?_;rintro _ _ ⟨rfl,rfl⟩;refine xD ?_;refine xZ ?_;intro b2;refine sA U U U U iA iA iA iA av λa2 c2=>xS ?_;refine au7 bl (l++[x]) U nH (by simp[fO]) ?_;exact az5
theorem uL:TR ab G 20 #[au bl] [NI bl l] (cT (ao l)):=by
 refine cg U λb β hb hG=>?_;refine UD bl λq a c=>xS ?_;refine nR [0,1,2,3,5,6,7,8,9] [0] ?_;refine xL [0,1,2,3,5,6,7,8,9] ?_;refine xS ?_;refine bd6 U U U λp hp=>xS ?_;refine aU9 U U U U hp U  ?_;exact xR
end
end Go.Proofs
namespace Go.Proofs
open Go.Shelf
set_option maxRecDepth 8000
def yd:Go.Shelf.Ren:=⟨fun|171=>118|243=>163|246=>258|283=>251|284=>252|285=>253|286=>254|129=>357|317=>356|318=>358|319=>359|320=>360|337=>429|338=>430|n=>n,fun|3=>3|9=>9|2=>2|4=>4|171=>389|0=>0|53=>87|37=>55|5=>5|173=>392|212=>483|51=>139|20=>20|213=>484|46=>388|232=>586|233=>587|n=>n,fun|17=>5|18=>10|19=>11|n=>n⟩
theorem rk:Go.Proofs.LaysM.n171 ab yd:={
 mixed:=cA
 f129:=Tryz.func357.trans (congrArg some cA)
 f171:=Tryz.func118.trans (congrArg some cA)
 f243:=Tryz.func163.trans (congrArg some cA)
 f246:=Tryz.func258.trans (congrArg some cA)
 f283:=Tryz.func251.trans (congrArg some cA)
 f284:=Tryz.func252.trans (congrArg some cA)
 f285:=Tryz.func253.trans (congrArg some cA)
 f286:=Tryz.func254.trans (congrArg some cA)
 f317:=Tryz.func356.trans (congrArg some cA)
 f318:=Tryz.func358.trans (congrArg some cA)
 f319:=Tryz.func359.trans (congrArg some cA)
 f320:=Tryz.func360.trans (congrArg some cA)
 f337:=Tryz.func429.trans (congrArg some cA)
 f338:=Tryz.func430.trans (congrArg some cA)
 t0:=Tryz.underlying0
 a0:=Tryz.isAgg0
 z0:=Tryz.sizeOf0
 v0:=Tryz.zeroValue0
 t2:=Tryz.underlying2
 a2:=Tryz.isAgg2
 z2:=Tryz.sizeOf2
 v2:=Tryz.zeroValue2
 t3:=ed
 a3:=Tryz.isAgg3
 z3:=Tryz.sizeOf3
 v3:=Tryz.zeroValue3
 t4:=fY
 a4:=Tryz.isAgg4
 z4:=Tryz.sizeOf4
 v4:=Tryz.zeroValue4
 t5:=fX
 a5:=Tryz.isAgg5
 z5:=Tryz.sizeOf5
 v5:=Tryz.zeroValue5
 t9:=cO
 a9:=Tryz.isAgg9
 z9:=Tryz.sizeOf9
 v9:=Tryz.zeroValue9
 t20:=Tryz.underlying20
 a20:=Tryz.isAgg20
 z20:=Tryz.sizeOf20
 v20:=Tryz.zeroValue20
 t37:=Tryz.underlying55
 a37:=Tryz.isAgg55
 z37:=Tryz.sizeOf55
 v37:=Tryz.zeroValue55
 t46:=Tryz.underlying388
 a46:=Tryz.isAgg388
 z46:=Tryz.sizeOf388
 v46:=Tryz.zeroValue388
 t51:=fg
 a51:=Tryz.isAgg139
 z51:=Tryz.sizeOf139
 v51:=Tryz.zeroValue139
 t53:=eO
 a53:=Tryz.isAgg87
 z53:=Tryz.sizeOf87
 v53:=Tryz.zeroValue87
 t171:=Tryz.underlying389
 a171:=Tryz.isAgg389
 z171:=Tryz.sizeOf389
 v171:=Tryz.zeroValue389
 t173:=Tryz.underlying392
 a173:=Tryz.isAgg392
 z173:=Tryz.sizeOf392
 v173:=Tryz.zeroValue392
 t212:=Tryz.underlying483
 a212:=Tryz.isAgg483
 z212:=Tryz.sizeOf483
 v212:=Tryz.zeroValue483
 t213:=Tryz.underlying484
 a213:=Tryz.isAgg484
 z213:=Tryz.sizeOf484
 t232:=Tryz.underlying586
 a232:=Tryz.isAgg586
 z232:=Tryz.sizeOf586
 v232:=Tryz.zeroValue586
 t233:=Tryz.underlying587
 a233:=Tryz.isAgg587
 z233:=Tryz.sizeOf587
 v233:=Tryz.zeroValue587
 g17:=cA
 g18:=cA
 g19:=cA
 i0:=cA
 i2:=cA
 i3:=cA
 i4:=cA
 i5:=cA
 i9:=cA
 i20:=cA
 i37:=cA
 i46:=cA
 i51:=cA
 i53:=cA
 i171:=cA
 i173:=cA
 i212:=cA
 i232:=cA
 i233:=cA
 m17:=cA
 m18:=cA
 m19:=by kernel_rfl}
def vT:Go.Shelf.Ren:=⟨fun|157=>57|229=>91|199=>92|261=>153|311=>239|312=>240|n=>n,fun|9=>9|31=>35|3=>3|5=>5|4=>4|119=>170|0=>0|40=>115|152=>238|21=>21|154=>240|51=>139|141=>242|196=>372|193=>369|198=>375|49=>373|194=>370|201=>378|226=>472|46=>388|227=>473|n=>n,fun|0=>0|6=>2|n=>n⟩
theorem BQ:Go.Proofs.LaysM.n157 ab vT:={
 mixed:=cA
 f157:=Tryz.func57.trans (congrArg some cA)
 f199:=Tryz.func92.trans (congrArg some cA)
 f229:=Tryz.func91.trans (congrArg some cA)
 f261:=Tryz.func153.trans (congrArg some cA)
 f311:=Tryz.func239.trans (congrArg some cA)
 f312:=Tryz.func240.trans (congrArg some cA)
 t0:=Tryz.underlying0
 a0:=Tryz.isAgg0
 z0:=Tryz.sizeOf0
 v0:=Tryz.zeroValue0
 t3:=ed
 a3:=Tryz.isAgg3
 z3:=Tryz.sizeOf3
 v3:=Tryz.zeroValue3
 t4:=fY
 a4:=Tryz.isAgg4
 z4:=Tryz.sizeOf4
 v4:=Tryz.zeroValue4
 t5:=fX
 a5:=Tryz.isAgg5
 z5:=Tryz.sizeOf5
 v5:=Tryz.zeroValue5
 t9:=cO
 a9:=Tryz.isAgg9
 z9:=Tryz.sizeOf9
 v9:=Tryz.zeroValue9
 t21:=Tryz.underlying21
 a21:=Tryz.isAgg21
 z21:=Tryz.sizeOf21
 v21:=Tryz.zeroValue21
 t31:=Tryz.underlying35
 a31:=Tryz.isAgg35
 z31:=Tryz.sizeOf35
 v31:=Tryz.zeroValue35
 t40:=Tryz.underlying115
 a40:=Tryz.isAgg115
 z40:=Tryz.sizeOf115
 v40:=Tryz.zeroValue115
 t46:=Tryz.underlying388
 a46:=Tryz.isAgg388
 z46:=Tryz.sizeOf388
 v46:=Tryz.zeroValue388
 t49:=Tryz.underlying373
 a49:=Tryz.isAgg373
 z49:=Tryz.sizeOf373
 v49:=Tryz.zeroValue373
 t51:=fg
 a51:=Tryz.isAgg139
 z51:=Tryz.sizeOf139
 v51:=Tryz.zeroValue139
 t119:=Tryz.underlying170
 a119:=Tryz.isAgg170
 z119:=Tryz.sizeOf170
 t141:=Tryz.underlying242
 a141:=Tryz.isAgg242
 z141:=Tryz.sizeOf242
 v141:=Tryz.zeroValue242
 t152:=Tryz.underlying238
 a152:=Tryz.isAgg238
 z152:=Tryz.sizeOf238
 v152:=Tryz.zeroValue238
 t154:=Tryz.underlying240
 a154:=Tryz.isAgg240
 z154:=Tryz.sizeOf240
 v154:=Tryz.zeroValue240
 t193:=Tryz.underlying369
 a193:=Tryz.isAgg369
 z193:=Tryz.sizeOf369
 v193:=Tryz.zeroValue369
 t194:=Tryz.underlying370
 a194:=Tryz.isAgg370
 z194:=Tryz.sizeOf370
 v194:=Tryz.zeroValue370
 t196:=Tryz.underlying372
 a196:=Tryz.isAgg372
 z196:=Tryz.sizeOf372
 v196:=Tryz.zeroValue372
 t198:=Tryz.underlying375
 a198:=Tryz.isAgg375
 z198:=Tryz.sizeOf375
 v198:=Tryz.zeroValue375
 t201:=Tryz.underlying378
 a201:=Tryz.isAgg378
 z201:=Tryz.sizeOf378
 v201:=Tryz.zeroValue378
 t226:=Tryz.underlying472
 a226:=Tryz.isAgg472
 z226:=Tryz.sizeOf472
 v226:=Tryz.zeroValue472
 t227:=Tryz.underlying473
 a227:=Tryz.isAgg473
 z227:=Tryz.sizeOf473
 v227:=Tryz.zeroValue473
 g0:=cA
 g6:=cA
 i0:=cA
 i3:=cA
 i4:=cA
 i5:=cA
 i9:=cA
 i21:=cA
 i31:=cA
 i40:=cA
 i46:=cA
 i49:=cA
 i51:=cA
 i141:=cA
 i152:=cA
 i154:=cA
 i193:=cA
 i194:=cA
 i196:=cA
 i198:=cA
 i201:=cA
 i226:=cA
 i227:=cA
 m0:=cA
 m6:=by kernel_rfl}
def yk:Go.Shelf.Ren:=⟨fun|172=>155|244=>248|245=>249|247=>350|279=>351|280=>352|281=>353|282=>354|287=>294|316=>427|171=>118|205=>428|321=>390|322=>391|243=>163|246=>258|283=>251|284=>252|285=>253|286=>254|129=>357|317=>356|318=>358|319=>359|320=>360|337=>429|338=>430|n=>n,fun|9=>9|3=>3|75=>62|76=>63|4=>4|5=>5|167=>476|37=>55|0=>0|85=>477|2=>2|168=>479|53=>87|175=>294|46=>388|210=>547|127=>124|145=>585|143=>583|21=>21|171=>389|173=>392|212=>483|51=>139|20=>20|213=>484|232=>586|233=>587|80=>66|n=>n,fun|15=>8|16=>9|17=>5|18=>10|19=>11|n=>n⟩
theorem Fu:Go.Proofs.Lays.n172 ab yk:={
 mixed:=cA
 f129:=Tryz.func357.trans (congrArg some cA)
 f171:=Tryz.func118.trans (congrArg some cA)
 f172:=Tryz.func155.trans (congrArg some cA)
 f205:=Tryz.func428.trans (congrArg some cA)
 f243:=Tryz.func163.trans (congrArg some cA)
 f244:=Tryz.func248.trans (congrArg some cA)
 f245:=Tryz.func249.trans (congrArg some cA)
 f246:=Tryz.func258.trans (congrArg some cA)
 f247:=Tryz.func350.trans (congrArg some cA)
 f279:=Tryz.func351.trans (congrArg some cA)
 f280:=Tryz.func352.trans (congrArg some cA)
 f281:=Tryz.func353.trans (congrArg some cA)
 f282:=Tryz.func354.trans (congrArg some cA)
 f283:=Tryz.func251.trans (congrArg some cA)
 f284:=Tryz.func252.trans (congrArg some cA)
 f285:=Tryz.func253.trans (congrArg some cA)
 f286:=Tryz.func254.trans (congrArg some cA)
 f287:=Tryz.func294.trans (congrArg some cA)
 f316:=Tryz.func427.trans (congrArg some cA)
 f317:=Tryz.func356.trans (congrArg some cA)
 f318:=Tryz.func358.trans (congrArg some cA)
 f319:=Tryz.func359.trans (congrArg some cA)
 f320:=Tryz.func360.trans (congrArg some cA)
 f321:=Tryz.func390.trans (congrArg some cA)
 f322:=Tryz.func391.trans (congrArg some cA)
 f337:=Tryz.func429.trans (congrArg some cA)
 f338:=Tryz.func430.trans (congrArg some cA)
 t0:=Tryz.underlying0
 a0:=Tryz.isAgg0
 z0:=Tryz.sizeOf0
 v0:=Tryz.zeroValue0
 t2:=Tryz.underlying2
 a2:=Tryz.isAgg2
 z2:=Tryz.sizeOf2
 v2:=Tryz.zeroValue2
 t3:=ed
 a3:=Tryz.isAgg3
 z3:=Tryz.sizeOf3
 v3:=Tryz.zeroValue3
 t4:=fY
 a4:=Tryz.isAgg4
 z4:=Tryz.sizeOf4
 v4:=Tryz.zeroValue4
 t5:=fX
 a5:=Tryz.isAgg5
 z5:=Tryz.sizeOf5
 v5:=Tryz.zeroValue5
 t9:=cO
 a9:=Tryz.isAgg9
 z9:=Tryz.sizeOf9
 v9:=Tryz.zeroValue9
 t20:=Tryz.underlying20
 a20:=Tryz.isAgg20
 z20:=Tryz.sizeOf20
 v20:=Tryz.zeroValue20
 t21:=Tryz.underlying21
 a21:=Tryz.isAgg21
 z21:=Tryz.sizeOf21
 v21:=Tryz.zeroValue21
 t37:=Tryz.underlying55
 a37:=Tryz.isAgg55
 z37:=Tryz.sizeOf55
 v37:=Tryz.zeroValue55
 t46:=Tryz.underlying388
 a46:=Tryz.isAgg388
 z46:=Tryz.sizeOf388
 v46:=Tryz.zeroValue388
 t51:=fg
 a51:=Tryz.isAgg139
 z51:=Tryz.sizeOf139
 v51:=Tryz.zeroValue139
 t53:=eO
 a53:=Tryz.isAgg87
 z53:=Tryz.sizeOf87
 v53:=Tryz.zeroValue87
 t75:=Tryz.underlying62
 a75:=Tryz.isAgg62
 z75:=Tryz.sizeOf62
 v75:=Tryz.zeroValue62
 t76:=Tryz.underlying63
 a76:=Tryz.isAgg63
 z76:=Tryz.sizeOf63
 v76:=Tryz.zeroValue63
 t85:=Tryz.underlying477
 a85:=Tryz.isAgg477
 z85:=Tryz.sizeOf477
 v85:=Tryz.zeroValue477
 t127:=Tryz.underlying124
 a127:=Tryz.isAgg124
 z127:=Tryz.sizeOf124
 v127:=Tryz.zeroValue124
 t143:=Tryz.underlying583
 a143:=Tryz.isAgg583
 z143:=Tryz.sizeOf583
 v143:=Tryz.zeroValue583
 t145:=Tryz.underlying585
 a145:=Tryz.isAgg585
 z145:=Tryz.sizeOf585
 v145:=Tryz.zeroValue585
 t167:=Tryz.underlying476
 a167:=Tryz.isAgg476
 z167:=Tryz.sizeOf476
 v167:=Tryz.zeroValue476
 t168:=Tryz.underlying479
 a168:=Tryz.isAgg479
 z168:=Tryz.sizeOf479
 v168:=Tryz.zeroValue479
 t171:=Tryz.underlying389
 a171:=Tryz.isAgg389
 z171:=Tryz.sizeOf389
 v171:=Tryz.zeroValue389
 t173:=Tryz.underlying392
 a173:=Tryz.isAgg392
 z173:=Tryz.sizeOf392
 v173:=Tryz.zeroValue392
 t175:=Tryz.underlying294
 a175:=Tryz.isAgg294
 z175:=Tryz.sizeOf294
 v175:=Tryz.zeroValue294
 t210:=Tryz.underlying547
 a210:=Tryz.isAgg547
 z210:=Tryz.sizeOf547
 v210:=Tryz.zeroValue547
 t212:=Tryz.underlying483
 a212:=Tryz.isAgg483
 z212:=Tryz.sizeOf483
 v212:=Tryz.zeroValue483
 t213:=Tryz.underlying484
 a213:=Tryz.isAgg484
 z213:=Tryz.sizeOf484
 t232:=Tryz.underlying586
 a232:=Tryz.isAgg586
 z232:=Tryz.sizeOf586
 v232:=Tryz.zeroValue586
 t233:=Tryz.underlying587
 a233:=Tryz.isAgg587
 z233:=Tryz.sizeOf587
 v233:=Tryz.zeroValue587
 g15:=cA
 g16:=cA
 g17:=cA
 g18:=cA
 g19:=by kernel_rfl}
def zN:Go.Shelf.Ren:=⟨fun|285=>253|n=>n,fun|37=>55|53=>87|3=>3|4=>4|51=>139|9=>9|5=>5|0=>0|n=>n,fun|n=>n⟩
theorem HA:Go.Proofs.Lays.n285 ab zN:={
 mixed:=cA
 f285:=Tryz.func253.trans (congrArg some cA)
 t0:=Tryz.underlying0
 a0:=Tryz.isAgg0
 z0:=Tryz.sizeOf0
 v0:=Tryz.zeroValue0
 t3:=ed
 a3:=Tryz.isAgg3
 z3:=Tryz.sizeOf3
 v3:=Tryz.zeroValue3
 t4:=fY
 a4:=Tryz.isAgg4
 z4:=Tryz.sizeOf4
 v4:=Tryz.zeroValue4
 t5:=fX
 a5:=Tryz.isAgg5
 z5:=Tryz.sizeOf5
 v5:=Tryz.zeroValue5
 t9:=cO
 a9:=Tryz.isAgg9
 z9:=Tryz.sizeOf9
 v9:=Tryz.zeroValue9
 t37:=Tryz.underlying55
 a37:=Tryz.isAgg55
 z37:=Tryz.sizeOf55
 v37:=Tryz.zeroValue55
 t51:=fg
 a51:=Tryz.isAgg139
 z51:=Tryz.sizeOf139
 v51:=Tryz.zeroValue139
 t53:=eO
 a53:=Tryz.isAgg87
 z53:=Tryz.sizeOf87
 v53:=Tryz.zeroValue87}
end Go.Proofs
namespace Go.Proofs
open Go.Sl
set_option maxRecDepth 8000
section
variable{P:Program}(G:bZ)(s:Bs)(c:UInt8)(w:World)
instance:CX ab 355 Extern.BytealgIndexByte.indexByte:=⟨λargs w=>run_callFunc_extern (fn:=Tryz.f355) U U U U U args w⟩
instance:CX ab 237 Extern.BytealgCount.count:=⟨λargs w=>run_callFunc_extern (fn:=Tryz.f237) U U U U U args w⟩
theorem ah5:(Extern.BytealgIndexByte.indexByte #[ao s,fO c]).run P w=.ok (.int .i64 (cE s c)) w:=by
 have:=Lib.run_indexByteString (P:=P) ⟨s.toArray⟩ c.toNat w;exact aQ9
theorem ah6:(Extern.BytealgCount.count #[ao s,fO c]).run P w=.ok (.int .i64 (bP s c)) w:=by
 have:=Lib.run_countString (P:=P) ⟨s.toArray⟩ c.toNat w;exact aQ9
theorem wy:TR ab G 250 #[ao s,fO c] [] (cT (.int .i64 (cE s c))):=by
 refine aW U λb β hb hG=>xS ?_;refine CW U U U (λw hs=>ah5 s c w)  ?_;exact xR
theorem wz:TR ab G 156 #[ao s,fO c] [] (cT (.int .i64 (cE s c))):=by
 refine aW U λb β hb hG=>?_;refine xJ (wy G s c) ?_;exact xR
theorem NJ:TR ab G 238 #[ao s,ao [c]] [] (cT (.int .i64 (cE s c))):=by
 refine aW U λb β hb hG=>?_;refine xB ?_ ?_<;>intro h
 ·have h:[c]=s:=by grind
  subst h;refine xS ?_;exact bO hb (.tmps U) ⟨by simp[lx,cE],U⟩
 ·refine xS ?_;refine kz (j:=0) U U U U U nH  ?_;refine xJ (wy G s c) ?_;exact xR
theorem NK:TR ab G 152 #[ao s,ao [c]] [] (cT (.int .i64 (cE s c))):=by
 refine aW U λb β hb hG=>?_;refine xJ (NJ G s c) ?_;exact xR
theorem NL:TR ab G 151 #[ao s,ao [c]] [] (cT (.int .i64 (bP s c))):=by
 refine aW U λb β hb hG=>xS ?_;refine kz (j:=0) U U U U U nH (xS ?_);refine CW U U U (λw hs=>ah6 s c w)  ?_;exact xR
def splitB(c:UInt8):Bs->List Bs
 |[]=>[[]]
 |x::r=>if x=c then[]::splitB c r else match splitB c r with
  |h::t=>(x::h)::t
  |[]=>[[x]]
theorem Bu(c:UInt8):∀(s:Bs),bP s c=0->splitB c s=[s]
 |[],_=>rfl
 |x::r,h=>by
  have h1:x≠c:=by rintro rfl;simp[bP]at h
  have h2:bP r c=0:=by simpa[bP,List.count_cons,h1]using h
  rw[splitB,if_neg h1,Bu c r h2]
theorem sU(c:UInt8):∀(s:Bs),(splitB c s).length=bP s c+1
 |[]=>rfl
 |x::r=>by
  have ih:=sU c r;rw[splitB];split
  ·rename_i h;subst h;simp[ih,bP]
  ·rename_i h;cases hq:splitB c r with
   |nil=>rw[hq]at ih;simp at ih
   |cons a t=>rw[hq]at ih;simp[bP,List.count_cons,h]at ih ⊢;exact ih
theorem Dx(c:UInt8):∀(s:Bs),0<bP s c->∃m:Nat,cE s c=m/\m<s.length/\splitB c s=s.take m::splitB c (s.drop (m+1))/\bP (s.drop (m+1)) c+1=bP s c
 |[],h=>by grind [bP]
 |x::r,h=>by
  by_cases h1:x=c
  ·grind [cE,splitB,bP]
  ·have h2:bP (x::r) c=bP r c:=by grind [bP]
   obtain⟨m,e1,e2,e3,e4⟩:=Dx c r av;refine⟨m+1,?_,by grind,?_,by grind⟩;all_goals grind [cE,splitB]
theorem fmS(l:List Bs):l.flatMap (λk:Bs=>[ao k])=l.map ao:=by
 induction l<;>grind
theorem Kp(hs:s.length<=1000000000):TR ab G 89 #[ao s,ao [c],aX 0,aX (-1)] [] (cb λv B=>∃a cc,v=.slice a (splitB c s).length cc/\(splitB c s).length<=cc/\B=[bV (bp λk:Bs=>[ao k]) 1 a (splitB c s)]):=by
 refine TR.go (us:=[_,_,_,_]) (aI U) λb β hb hG=>?_;have hcnt:bP s c<=s.length:=List.count_le_length;refine xJ (NL G s c) ?_;have hmin:(if(s.length:Int)+1<(bP s c:Int)+1 then(s.length:Int)+1 else(bP s c:Int)+1)=((bP s c+1:Nat):Int):=av;rw[hmin];generalize hn0:bP s c+1=n at*;refine au8 (n:=n) (zs:=[ao []]) U U U U U U U av av λa=>xS ?_;refine gV a av λbl ha=>?_;subst ha;refine X.loop (ι:={p:Bs×List Bs // p.2.length<n/\p.2++splitB c p.1=splitB c s/\bP p.1 c+1+p.2.length=n/\p.1.length<=s.length}) (λp=>([(0,ao p.1.1),(1,ao [c]),(2,aX 0),(3,aX ((n:Int) - 1)),(9,.slice (some ⟨bl,0,none⟩) n n),(10,aX p.1.2.length)],[own 9 1 (some ⟨bl,0,none⟩) n n ((p.1.2++bI (n - p.1.2.length) []).map ao)])) (λp=>n - p.1.2.length) ⟨(s,[]),by grind,U,by simp;omega,ar _⟩ (Sub.of U) (jk (by simp[List.map_replicate])) ?_;generalize Wv:s=s0 at*;rintro⟨⟨s,q⟩,Ua,U',hq3,hq4⟩ ih;dsimp only at Ua U' hq3 hq4 ⊢;refine xB ?_ ?_<;>intro h
 ·have hi:q.length<n - 1:=by grind
  obtain⟨m,e1,e2,e3,e4⟩:=Dx c s av
  refine xJ (NK G s c) ?_
  rw[e1]
  refine xS ?_
  refine mM (l:=0) (h:=m) U U U Bd.no (Bd.at U pH) av av (xS ?_)
  refine du (j:=q.length) U U U U U av ?_
  refine nT (bo:=λk:Bs=>[ao k]) (l:=q++bI (n - q.length) []) q.length (s.take m) U U U (fmS _).symm (λ_=>rfl) (aQ _) bB U U (xS ?_)
  rw[show([c]:Bs).length=1 from rfl]
  refine xS ?_
  refine mM (l:=m+1) (h:=s.length) U U U (Bd.at U (show(m:Int)+((1:Nat):Int)=((m+1:Nat):Int)from by simp)) Bd.no av av (xS ?_)
  refine X.less (ih ⟨(s.drop (m+1),q++[s.take m]),by simp;omega,by grind,by simp;omega,by simp;omega⟩ bB) (YX (eN U a00) U U U U (eN U pH)) ?_
  dsimp only
  refine jk ?_
  have hr:bI (n - q.length) ([]:Bs)=[]::bI (n - (q++[s.take m]).length) []:=by
   rw[show n - q.length=n - (q++[s.take m]).length+1 from by simp;omega,List.replicate_succ]
  grind [fmS]
 ·have hi:q.length=n - 1:=by grind
  refine xS ?_;refine du (j:=q.length) U U U U U av ?_;refine nT (bo:=λk:Bs=>[ao k]) (l:=q++bI (n - q.length) []) q.length s U U U (fmS _).symm (λ_=>rfl) (aQ _) bB U U ?_;have hr:(q++bI (n - q.length) ([]:Bs)).set q.length s=q++[s]:=by
   rw[show n - q.length=1 from by omega,List.set_append_right _ _ (ar _)];simp
  rw[hr];rw[Bu c s av]at U';rw[U'];have hl:(splitB c s0).length=n:=bE;refine dE (some ⟨bl,0,none⟩) (λk:Bs=>[ao k]) (splitB c s0) U hl.symm (λ_=>rfl) λ_=>xS ?_;refine nI (l:=0) (h:=n) U U U hl Bd.no (Bd.at U av) av av av λa2 c2 Nk=>xS ?_;refine X.ret hb (.tmps U) ⟨_,⟨a2,c2,by rw[hl];rfl,by omega,U⟩,?_⟩;rw[fm,aD av];exact fN [_] _
theorem Kq(hs:s.length<=1000000000):TR ab G 53 #[ao s,ao [c]] [] (cb λv B=>∃a cc,v=.slice a (splitB c s).length cc/\(splitB c s).length<=cc/\B=[bV (bp λk:Bs=>[ao k]) 1 a (splitB c s)]):=by
 refine aW U λb β hb hG=>xS ?_;refine bw (Kp G s c hs) ?_;rintro _ _ ⟨a,cc,rfl,h1,rfl⟩;refine xD ?_;exact bO hb (.tmps U) ⟨a,cc,U,h1,U⟩
def yO(c:UInt8):Bool:=decide (c.toNat<32)||decide (126<c.toNat)
theorem ah7(n:Int):TR ab G 56 #[.int .i32 n] [] (cT (.bool (decide (n<32)||decide (126<n)))):=by
 refine cg U λb β hb hG=>xS ?_;by_cases h:n<32
 ·refine xT 5 ?_ ?_<;>intro h2
  ·exact aJ9
  ·simp at h2;omega
 ·refine xT 5 ?_ ?_<;>intro h2
  ·simp at h2;omega
  ·exact aJ9
theorem NM(hs:s.length<=1099511627776):TR ab G 90 #[ao s,.func (.func 56) #[] #[],.bool true] [] (cT (.int .i64 (cy yO 0 s))):=by
 refine jr U λb β hb hG=>xS ?_;refine bd9 U U U λr=>xS ?_;refine eT [0,1,2,10] [0] (ι:={i:Nat // i<=s.length/\cy yO 0 s=cy yO i (s.drop i)}) (λi q_=>q_) (λi q_=>pt r (.stringIter ⟨s.toArray⟩ i.1)::q_) (λi=>s.length - i.1) ⟨0,al _,U⟩ ?_;rintro⟨i,hi,hE⟩ ih;dsimp only;refine xS ?_;refine bd7 (l:=s) i U U U (λh=>?_) (λh=>?_)
 ·refine xS ?_;rw[jt yO s i h]at hE;refine ng (fst:=[]) (us:=[.int .i32 (rune s i).1]) (cap:=[]) hG (ah7 G (rune s i).1) U U U U ?_;have rA:(decide (((rune s i).1:Int)<32)||decide (126<((rune s i).1:Int)))=yO s[i]:=by
   grind [yO,P3,ah4]
  rw[rA];cases Ra:yO s[i]with
  |true=>
   rw[if_pos Ra]at hE;refine xS ?_;refine UL U U U U (xS ?_);refine bO hb (.tmps U) ⟨by rw[hE];rfl,U⟩
  |false=>
   rw[if_neg (by simp[Ra])]at hE;have h2:s[i].toNat<128:=by grind [yO]
   rw[P3 s i h h2];refine xS ?_;refine UL U U U U (xS ?_);exact aI9
 ·have fw:i=s.length:=by omega
  subst fw;rw[bc av]at hE;exact bj9
theorem Kr(hs:s.length<=1099511627776):TR ab G 55 #[ao s,.func (.func 56) #[] #[]] [] (cT (.int .i64 (cy yO 0 s))):=by
 refine aW U λb β hb hG=>?_;refine xJ (NM G s hs) ?_;exact xR
theorem GH{α:Type}(p:α->Bool):∀(l:List α) (i:Nat),cy p i l<0↔∀x∈l,p x=false
 |[],i=>by simp[cy]
 |x::r,i=>by
  rw[cy];by_cases h:p x=true
  ·rw[if_pos h];simp[h]
  ·rw[if_neg h,GH p r (i+1)];simp[h]
end
end Go.Proofs
namespace Go.Proofs
open Go.Sl
open Go.RowKit Go.Sort
set_option maxRecDepth 8000
section
variable{β:bS}(s:Bs)(n:Int)
theorem Ks(w:World)(k:Nat)(os:Array Obj):Below w.heap.size w (grow (w.drewN k) os):=
 ⟨U,U,U,by simp_all,λi hi=>by
  show(w.heap++os)[i]?=_
  grind⟩
theorem Dy{Hs:List az}{w:World}(hs:Sat β Hs w){name:String}{g t:Nat}{f:Nat×Nat}{k:IntKind}{zs:List Int}(hg:ab.globalNamed name=some g)(h:β.r g=some (.cells (zs.map λz=>eL k z).toArray t f)):Lib.TabIs ab w name k zs:=by
 obtain⟨r,o,h0,hf,_⟩:=hs
 have h1:w.heap[g]?=some (.cells (zs.map λz=>eL k z).toArray t f):=hf.r _ _ (h0 _ _ h)
 grind [Lib.TabIs,World.var?]
theorem qf(hG:GG.on β):β.q=false:=by cases hb:β.q with|false=>rfl|true=>exact absurd (hG.2 hb) (by simp[GG])
theorem vz(h0: -9223372036854775808<=n)(h1:n<=9223372036854775807):TR ab GG 118 #[.int .i64 n] [] (cT (ao (gK n))):=by
 intro β w hG hs;obtain⟨t,f,hp⟩:=hG.1.aX6;refine(Any.strconv_Itoa rk n h0 h1 w (Dy hs cA hp)).mono ?_;rintro e w' ⟨rfl,k,os,rfl⟩;exact⟨[],⟨U,U⟩,hs.below (qf hG) (Ks w k os)⟩
theorem Ih:∀(q:Bool) (l:Bs),Lib.cntF q l<=l.length
 |_,[]=>al _
 |q,x::r=>by
  have:=Ih (Lib.isSp x) r;rw[Lib.cntF,ax];split<;>omega
theorem R4(hl:s.length<4294967281)(ha:∀x∈s,x.toNat<128):TR ab GG 57 #[ao s] [] (cb λv B=>∃a,v=.slice a (iG s).length (iG s).length/\B=[own 9 1 a (iG s).length (iG s).length ((iG s).map ao)]):=by
 intro β w hG hs;obtain⟨t,f,hp⟩:=hG.1.sp;refine(Any.strings_Fields_laid BQ ⟨s.toArray⟩ w Va (λj b hb=>ha b (List.mem_of_getElem? (by simpa using hb))) (Dy hs cA hp)).mono ?_;rintro e w' ⟨rfl,rfl⟩;refine⟨_,⟨_,U,U⟩,?_⟩;refine fK (cur:=((iG s).map ao).toArray) (Sat.jP hs _) nH (ar _) ?_ nH a00;have:(iG s).length<=s.length:=by grind [Lib.fields_length,Ih]
 show _<=9223372036854775807;omega
theorem P4(hl:s.length<=18)(h:Lib.atoi s=some n):TR ab GG 155 #[ao s] [] (cT (.tuple #[.int .i64 n,.nilIface])):=by
 refine TR.below U λw=>?_
 refine(Any.strconv_Atoi Fu ⟨s.toArray⟩ n Va h w).mono ?_
 grind [Lib.bytesWorld_below]
end
end Go.Proofs
namespace Go.Proofs
open Go.RowKit Go.Extern.Stop Go.Stop Go.Extern
set_option maxRecDepth 8000
section
variable{n:Nat}(e:Int)(v h:Value)(a p:Addr)(W:World)(t:Addr)(w:World)
@[reducible] def kx(n:Nat):Value:=.pointer (some ⟨13,n,none⟩)
theorem ah8:(ReflectliteValue.unpack (.iface 147 (.pointer (some t)))).run ab w
 =.ok (.agg #[kx 147,.pointer (some ⟨w.heap.size,0,none⟩),.int .u64 150]) (w.alloc (.cells #[.pointer (some t)] 147)):=cA
theorem ah9:(ReflectliteValue.methodAny (ReflectliteValue.valueError "reflectlite.Value.Type" 0) (λt _ _ _=>ReflectliteType.toType t) #[.agg #[kx 147,.pointer (some a),.int .u64 150]]).run ab w
 =.ok (.iface 301 (.agg #[kx 147])) w:=cA
theorem WA:(Go.method 736 301 (.agg #[h]) "Kind").run ab w=.ok (533,h) w:=cA
theorem ai0:((ReflectliteType.abiMethod λt=>Functor.map (λa:Nat=>eL cC (a:Int)) (Rtype.kind t)) #[kx 147]).run ab w=.ok (.int .u8 22) w:=cA
theorem aY3:((ReflectliteType.abiMethod λt=>Functor.map (λa:Nat=>eL cC (a:Int)) (Rtype.kind t)) #[kx 23]).run ab w=.ok (.int .u8 2) w:=cA
theorem WE{v:Value}{h1:#[v].size=n}{h2:0<n}:#[v].getLit 0 h1 h2=v:=rfl
theorem WG{v x:Value}{h1:#[v,x].size=n}{h2:0<n}:#[v,x].getLit 0 h1 h2=v:=rfl
theorem WH{v x:Value}{h1:#[v,x].size=n}{h2:1<n}:#[v,x].getLit 1 h1 h2=x:=rfl
theorem P5:(ReflectliteValue.parts (.agg #[kx 147,.pointer (some a),.int .u64 150])).run ab w=.ok (some (147,a,150)) w:=cA
theorem R5(ha:W.cell? a=some (.pointer (some p))):
 (ReflectliteValue.method (ReflectliteValue.valueError "reflectlite.Value.IsNil" 0) ReflectliteValue.isNil #[.agg #[kx 147,.pointer (some a),.int .u64 150]]).run ab W=.ok (.bool false) W:=by
 refine(show _=(_>>=_:Sem Value).run _ _ from rfl).trans ?_
 simp only[WE,WG,WH]
 simp only[aU,P5,ig]
 simp[ReflectliteValue.isNil,loadVar,isAgg,underlying,Tryz.underlying147,ha,ig]
theorem WI:(Go.method 736 301 (.agg #[h]) "Elem").run ab w=.ok (548,.agg #[h]) w:=cA
theorem WJ:(Go.method 736 301 (.agg #[h]) "Implements").run ab w=.ok (549,.agg #[h]) w:=cA
theorem ai1:(Go.method 736 301 (.agg #[h]) "AssignableTo").run ab w=.ok (546,.agg #[h]) w:=cA
theorem ai2:(ReflectliteType.method ReflectliteType.elem #[.agg #[kx 147]]).run ab w=.ok (.iface 301 (.agg #[kx 23])) w:=cA
theorem aY4:(ReflectliteType.relation "Implements" ReflectliteType.implements_ #[.agg #[kx 23],.iface 301 (.agg #[kx 62])]).run ab w=.ok (.bool true) w:=cA
theorem ai3:(ReflectliteType.typeOf #[.iface 23 v]).run ab w=.ok (.iface 301 (.agg #[kx 23])) w:=cA
theorem WK:(ReflectliteType.typeOf #[.iface 178 v]).run ab w=.ok (.iface 301 (.agg #[kx 178])) w:=cA
theorem aY5:(ReflectliteType.relation "AssignableTo" ReflectliteType.assignableTo #[.agg #[kx 23],.iface 301 (.agg #[kx 23])]).run ab w=.ok (.bool true) w:=cA
theorem ai4:(ReflectliteType.relation "AssignableTo" ReflectliteType.assignableTo #[.agg #[kx 178],.iface 301 (.agg #[kx 23])]).run ab w=.ok (.bool false) w:=cA
theorem aY6:(ReflectliteValue.unpack (.iface 23 (.int .i64 e))).run ab w
 =.ok (.agg #[kx 23,.pointer (some ⟨w.heap.size,0,none⟩),.int .u64 130]) (w.alloc (.cells #[.int .i64 e] 23)):=cA
theorem WM:(Rtype.elem? 147).run ab w=.ok (some 23) w:=cA
theorem ai5:(ReflectliteValue.mk 23 p ReflectliteValue.flagAddr).run ab w=.ok (.agg #[kx 23,.pointer (some p),.int .u64 386]) w:=cA
theorem WN(ha:W.cell? a=some (.pointer (some p))):
 (ReflectliteValue.method (ReflectliteValue.valueError "reflectlite.Value.Elem" 0) ReflectliteValue.elem #[.agg #[kx 147,.pointer (some a),.int .u64 150]]).run ab W
  =.ok (.agg #[kx 23,.pointer (some p),.int .u64 386]) W:=by
 refine(show _=(_>>=_:Sem Value).run _ _ from rfl).trans ?_
 simp only[WE,WG,WH]
 simp only[aU,P5,ig]
 simp[ReflectliteValue.elem,loadVar,isAgg,underlying,Tryz.underlying147,ha,ig,WM,ai5]
theorem ai6:(ReflectliteValue.parts (.agg #[kx 23,.pointer (some a),.int .u64 386])).run ab w=.ok (some (23,a,386)) w:=cA
theorem aY7:(ReflectliteValue.parts (.agg #[kx 23,.pointer (some a),.int .u64 130])).run ab w=.ok (some (23,a,130)) w:=cA
theorem aY8:(Rtype.directlyAssignable 23 23).run ab w=.ok true w:=cA
theorem aY9(ta b:Addr)(e:Int)(iP:Value)(W:World)(hb:W.cell? b=some (.int .i64 e))(ht:W.cell? ta=some iP)(hf:W.frozen? ta=false):
 (ReflectliteValue.set #[.agg #[kx 23,.pointer (some ta),.int .u64 386],.agg #[kx 23,.pointer (some b),.int .u64 130]]).run ab W
  =.ok (.tuple #[]) (W.setCell ta (.int .i64 e)):=by
 refine(show _=(_>>=_:Sem Value).run _ _ from rfl).trans ?_
 simp only[WE,WG,WH]
 simp only[aU,ai6,aY7,ig]
 simp[ReflectliteValue.flagAddr,loadVar,isAgg,underlying,Tryz.underlying23,hb,ig,aY8,storeVar,Value.cells,storeCells,Addr.add]
 rw[run_store ab W ta _ _ iA]
 simp[ht,hf]
theorem ai7:(Instr.typeAssert (.iface 178 v) 62 306 true).run ab w=.ok (.tuple #[.nilIface,.bool false]) w:=run_typeAssert_lacksB Tryz.underlying306 cA cA v 62 w
theorem ai8:(Instr.typeAssert (.iface 178 v) 62 309 true).run ab w=.ok (.tuple #[.iface 178 v,.bool true]) w:=cA
theorem ai9:(Go.method 736 178 h "Unwrap").run ab w=.ok (541,h) w:=cA
section
set_option maxRecDepth 20000
theorem aZ0(c:Value)(e:Int)(iP:Value)(w:World)(hg:w.cell? ⟨1,0,none⟩=some (.iface 301 (.agg #[kx 62])))(hp:w.cell? ⟨p.block,p.off+1,none⟩=some (.iface 23 (.int .i64 e)))(ht0:w.cell? t=some iP)(hf0:w.frozen? t=false):
 Calls ab 69 #[.iface 178 (.pointer (some p)),.iface 147 (.pointer (some t))] w λev w'=>ev=.returned (.bool true)/\w'=((((w.alloc (.cells #[.pointer (some t)] 147)).alloc (.cells #[kx 147,.pointer (some ⟨w.heap.size,0,none⟩),.int .u64 150] 196)).alloc (.cells #[kx 147,.pointer (some ⟨w.heap.size,0,none⟩),.int .u64 150] 196)).alloc (.cells #[.int .i64 e] 23)).setCell t (.int .i64 e):=by
 have h128:=@run_callFunc_extern ab 128 _ (λargs=>ReflectliteValue.unpack (args.getD 0 (.tuple #[]))) Tryz.func128 cA cA cA cA
 have h129:=@run_callFunc_extern ab 129 _ (ReflectliteValue.methodAny (ReflectliteValue.valueError "reflectlite.Value.Type" 0) (λt _ _ _=>ReflectliteType.toType t)) Tryz.func129 cA cA cA cA
 have h130:=@run_callFunc_extern ab 130 _ (ReflectliteValue.method (ReflectliteValue.valueError "reflectlite.Value.IsNil" 0) ReflectliteValue.isNil) Tryz.func130 cA cA cA cA
 have h533:=@run_callFunc_extern ab 533 _ (ReflectliteType.abiMethod λt=>do pure (.int .u8 (<-Rtype.kind t))) Tryz.func533 cA cA cA cA
 have h548:=@run_callFunc_extern ab 548 _ (ReflectliteType.method ReflectliteType.elem) Tryz.func548 cA cA cA cA
 have h549:=@run_callFunc_extern ab 549 _ (ReflectliteType.relation "Implements" ReflectliteType.implements_) Tryz.func549 cA cA cA cA
 have h190:=@run_callFunc_extern ab 190 _ ReflectliteType.typeOf Tryz.func190 cA cA cA cA
 have h546:=@run_callFunc_extern ab 546 _ (ReflectliteType.relation "AssignableTo" ReflectliteType.assignableTo) Tryz.func546 cA cA cA cA
 have h191:=@run_callFunc_extern ab 191 _ (ReflectliteValue.method (ReflectliteValue.valueError "reflectlite.Value.Elem" 0) ReflectliteValue.elem) Tryz.func191 cA cA cA cA
 have h192:=@run_callFunc_extern ab 192 _ ReflectliteValue.set Tryz.func192 cA cA cA cA
 have t23:=ai3
 have t178:=WK
 have mA:=ai1
 have a23:=aY5
 have a178:=ai4
 have v23:=aY6
 have v147:=ah8
 have t147:=ah9
 have mK:=WA
 have mE:=WI
 have mI:=WJ
 have mU:=ai9
 have k147:=ai0
 have k23:=aY3
 have e147:=ai2
 have i23:=aY4
 have A306:=ai7
 have A309:=ai8
 have n8:=R5 ⟨w.heap.size,0,none⟩ t ((w.alloc (.cells #[.pointer (some t)] 147)).alloc (.cells #[kx 147,.pointer (some ⟨w.heap.size,0,none⟩),.int .u64 150] 196)) nH
 have tV:1<w.heap.size:=by
  rcases Nat.lt_or_ge 1 w.heap.size with h|h
  ·exact h
  ·simp[gj,Array.getElem?_eq_none h]at hg
 have hg2:((w.alloc (.cells #[.pointer (some t)] 147)).alloc (.cells #[kx 147,.pointer (some ⟨w.heap.size,0,none⟩),.int .u64 150] 196)).cell? ⟨1,0,none⟩=some (.iface 301 (.agg #[kx 62])):=by
  rw[ew _ _ ⟨1,0,none⟩ bB,ew _ _ ⟨1,0,none⟩ tV];exact hg
 have NN:t.block<w.heap.size:=by
  rcases Nat.lt_or_ge t.block w.heap.size with h|h
  ·exact h
  ·simp[gj,Array.getElem?_eq_none h]at ht0
 have tJ:p.block<w.heap.size:=by
  rcases Nat.lt_or_ge p.block w.heap.size with h|h
  ·exact h
  ·simp[gj,Array.getElem?_eq_none h]at hp
 have hp3:(((w.alloc (.cells #[.pointer (some t)] 147)).alloc (.cells #[kx 147,.pointer (some ⟨w.heap.size,0,none⟩),.int .u64 150] 196)).alloc (.cells #[kx 147,.pointer (some ⟨w.heap.size,0,none⟩),.int .u64 150] 196)).cell? ⟨p.block,p.off+1,none⟩=some (.iface 23 (.int .i64 e)):=by
  rw[ew _ _ ⟨p.block,p.off+1,none⟩ bB,ew _ _ ⟨p.block,p.off+1,none⟩ bB,ew _ _ ⟨p.block,p.off+1,none⟩ tJ];exact hp
 have el:=WN ⟨w.heap.size,0,none⟩ t (((w.alloc (.cells #[.pointer (some t)] 147)).alloc (.cells #[kx 147,.pointer (some ⟨w.heap.size,0,none⟩),.int .u64 150] 196)).alloc (.cells #[kx 147,.pointer (some ⟨w.heap.size,0,none⟩),.int .u64 150] 196)) (by rw[ew _ _ ⟨w.heap.size,0,none⟩ bB];simp)
 have st:=aY9 t ⟨w.heap.size+1+1+1,0,none⟩ e iP ((((w.alloc (.cells #[.pointer (some t)] 147)).alloc (.cells #[kx 147,.pointer (some ⟨w.heap.size,0,none⟩),.int .u64 150] 196)).alloc (.cells #[kx 147,.pointer (some ⟨w.heap.size,0,none⟩),.int .u64 150] 196)).alloc (.cells #[.int .i64 e] 23))
  (by rw[World.cell?_alloc_at _ _ _ _ nH];rfl)
  (by rw[ew _ _ t bB,ew _ _ t bB,ew _ _ t bB,ew _ _ t NN];exact ht0)
  (by rw[World.frozen?_alloc_old _ _ t bB,World.frozen?_alloc_old _ _ t bB,World.frozen?_alloc_old _ _ t bB,World.frozen?_alloc_old _ _ t (Nat.ne_of_lt NN)];exact hf0)
 go_enter Tryz.func69,Tryz.ntmps69
 go_wp2
 refine wp_loop_rounds 2 ?_
 rw[rounds_succ]
 go_wp2
 rw[rounds_succ]
 go_wp2
 go_ret
 exact⟨U,U⟩
end
end
end Go.Proofs
namespace Go.Proofs
open Go.Sl
set_option maxRecDepth 8000
section
variable{p:Prop}{j i:Nat}
theorem Q3{r:Hp}{w:World}{b o:Nat}{l:List Value}(h:BS r b o l)(hr:Hp.le r (hp w)){v:Value}(hj:l[j]?=some v):w.cell? ⟨b,o+j,none⟩=some v:=
 (h.mono hr).cell hj
theorem QW{β:bS}{F:List az}{W:World}{t ty:Nat}{a:Value}(h:Sat β (bx t ty [a]::F) W)(v:Value):Sat β (bx t ty [v]::F) (W.setCell ⟨t,0,none⟩ v):=by
 have h3:=dS h;refine Sat.put h ⟨U,U,U,by simp[World.setCell],λ_=>ar _⟩ ?_ ?_
 ·simp only[World.setCell];rw[eF,if_pos U,h3];rfl
 ·intro n hn _;simp only[World.setCell];rw[eF,if_neg (by exact λh=>hn h.symm)]
theorem WO(p t:Nat)(c:Bs)(e iP:Int):TR ab GG 69 #[.iface 178 (au p),.iface 147 (au t)] [bx p 180 [ao c,.iface 23 (.int .i64 e)],bx t 23 [.int .i64 iP]] (cb λv B=>v=.bool true/\B=[bx t 23 [.int .i64 e]]):=by
 intro β w hG hs;have hp:w.heap[p]?=some _:=dS hs;have ht:w.heap[t]?=some _:=dS (hs.cd (cQ _ _ _));have hg:w.cell? ⟨1,0,none⟩=some (.iface 301 (.agg #[kx 62])):=by
  obtain⟨r,o,h0,hf,_⟩:=hs;exact Q3 hG.1.e1 (λn x hn=>hf.r _ _ (h0 _ _ hn)) (j:=0) U
 refine(aZ0 ⟨p,0,none⟩ ⟨t,0,none⟩ (ao c) e (.int .i64 iP) w hg ?_ ?_ ?_).mono ?_
 ·simp[gj,hp]
 ·simp[gj,ht]
 ·simp[World.frozen?,ht]
 ·rintro ev w' ⟨rfl,rfl⟩;refine⟨_,⟨U,U⟩,?_⟩;have h1:=(((((hs.cd (cQ _ _ _)).cd (fN [bx t 23 [.int .i64 iP]] [bx p 180 [ao c,.iface 23 (.int .i64 e)]])).jP (.cells #[.pointer (some ⟨t,0,none⟩)] 147)).jP (.cells #[kx 147,.pointer (some ⟨w.heap.size,0,none⟩),.int .u64 150] 196)).jP (.cells #[kx 147,.pointer (some ⟨w.heap.size,0,none⟩),.int .u64 150] 196)).jP (.cells #[.int .i64 e] 23);have h2:=h1.cd (di (cG (l₁:=[_,_,_,_]) (l₂:=[_])));exact(QW h2 _).cd (fN [_] _)
theorem WQ(G:bZ)(fc:Nat)[CF ab fc](cap:List Value)(A:List az)(p:(WB bn)->Bool)(a:Option Addr)(n c:Nat)(xs:List (WB bn))(hn:xs.length=n)(hs:n<=1099511627776)
 (hc:∀x∈xs,TR ab G fc (([]:List Value)++[gn (bG x).toArray]++cap).toArray [cV A] (cb λv B=>v=.bool (p x)/\B=[cV A])):
 TR ab G 270 #[.slice a n c,.func (.func fc) #[] cap.toArray] [bV (bp bG) 2 a xs,cV A] (cb λv B=>v=aX (cy p 0 xs)/\B=[cV A]):=by
 refine aW U λb β hb hG=>xS ?_
 refine eT [0,1] [] (ι:={i:Nat // i<=n/\cy p 0 xs=cy p i (xs.drop i)}) (λi q_=>(7,aX n)::(8,aX i.1)::q_) (λi q_=>q_) (λi=>n - i.1) ⟨0,al _,U⟩ ?_
 rintro⟨i,hi,hE⟩ ih
 dsimp only
 refine xB ?_ ?_<;>intro h
 ·have hi:i<xs.length:=by grind
  refine xS ?_;refine cH U U U U U hi hn λbl o=>?_;rw[jt _ xs i hi]at hE;have Db:=hc xs[i] (aB hi);generalize xs[i]=x at*;refine xS ?_;refine dF U U U U (xS ?_);refine gW (fst:=[]) (us:=[gn (bG x).toArray]) (cap:=cap) hG Db U U U U aN.es ?_;exact bw9
 ·exact bg3
structure B0 where
 iD:bn
 no:UInt32
deriving DecidableEq
@[reducible] def lh(x:WB B0):List Value:=[ao x.1.iD.name,.slice x.2.1 x.1.iD.data.length x.2.2,.int .u32 x.1.no.toNat]
section
variable {α:Type}
def qM(lt:α->α->Bool)(l:List α)(i j:Nat):Bool:=match l[i]?,l[j]? with|some x,some y=>lt x y|_,_=>false
def oU(l:List α)(i j:Nat):List α:=match l[i]?,l[j]? with|some x,some y=>(l.set i y).set j x|_,_=>l
theorem uM{l:List α}(hi:i<l.length)(hj:j<l.length):oU l i j=(l.set i l[j]).set j l[i]:=by
 grind [oU]
theorem Cq(lt:α->α->Bool){l:List α}(hi:i<l.length)(hj:j<l.length):qM lt l i j=lt l[i] l[j]:=by
 grind [qM]
theorem qx(l:List α)(i j:Nat):(oU l i j).Perm l:=by
 by_cases hi:i<l.length
 ·by_cases hj:j<l.length
  ·grind [uM,List.set_set_perm]
  ·unfold oU;simp_all
 ·unfold oU;simp_all
theorem vA(l:List α)(i j:Nat):(oU l i j).length=l.length:=(qx l i j).length_eq
def wW(lt:α->α->Bool)(a:Nat):Nat->List α->List α
 |0,l=>l
 |j+1,l=>if a<j+1/\qM lt l (j+1) j=true then wW lt a j (oU l (j+1) j)else l
def Ku(lt:α->α->Bool)(a:Nat):Nat->Nat->List α->List α
 |0,_,l=>l
 |k+1,i,l=>Ku lt a k (i+1) (wW lt a i l)
def Ag(lt:α->α->Bool)(l:List α)(a b:Nat):List α:=Ku lt a (b - (a+1)) (a+1) l
def Kv(a b:Nat):Nat->Nat->List α->List α
 |0,_,l=>l
 |k+1,i,l=>Kv a b k (i+1) (oU l (a+i) (b+i))
def pO(m:Nat):Nat->Nat->Nat->List α->List α
 |0,_,_,l=>l
 |f+1,i,j,l=>if i=j then Kv (m - i) m i 0 l else if j<i then pO m f (i - j) j (Kv (m - i) m j 0 l)else pO m f i (j - i) (Kv (m - i) (m+j - i) i 0 l)
def Fk(p:Nat->Bool):Nat->Nat->Nat->Nat
 |0,i,_=>i
 |f+1,i,j=>if i<j then(if p ((i+j) / 2)=true then Fk p f ((i+j) / 2+1) j else Fk p f i ((i+j) / 2))else i
def shU:Nat->Nat->List α->List α
 |0,_,l=>l
 |c+1,k,l=>shU c (k+1) (oU l k (k+1))
def shD:Nat->Nat->List α->List α
 |0,_,l=>l
 |c+1,k,l=>shD c (k - 1) (oU l k (k - 1))
def B3(a m b:Nat):Nat:=if(a+b) / 2<m then(a+b) / 2+m - b else a
def Ah(a m b:Nat):Nat:=if(a+b) / 2<m then(a+b) / 2 else m
def ir(lt:α->α->Bool)(l:List α)(a m b:Nat):Nat:=
 Fk (λc=> !qM lt l ((a+b) / 2+m - 1 - c) c) (Ah a m b - B3 a m b) (B3 a m b) (Ah a m b)
def oV(lt:α->α->Bool):Nat->List α->Nat->Nat->Nat->List α
 |0,l,_,_,_=>l
 |f+1,l,a,m,b=>
  if m - a=1 then shU (Fk (λh=>qM lt l h a) (b - m) m b - 1 - a) a l
  else if b - m=1 then shD (m - Fk (λh=> !qM lt l m h) (m - a) a m) m l
  else
   let s:=ir lt l a m b
   let e:=(a+b) / 2+m - s
   let l1:=if s<m/\m<e then pO m (e - s) (m - s) (e - m) l else l
   let l2:=if a<s/\s<(a+b) / 2 then oV lt f l1 a s ((a+b) / 2)else l1
   if(a+b) / 2<e/\e<b then oV lt f l2 ((a+b) / 2) e b else l2
def R6(lt:α->α->Bool)(n:Nat):Nat->Nat->List α->List α
 |0,a,l=>Ag lt l a n
 |f+1,a,l=>if a+20<=n then R6 lt n f (a+20) (Ag lt l a (a+20))else Ag lt l a n
def stM(lt:α->α->Bool)(n bs:Nat):Nat->Nat->List α->List α
 |0,_,l=>l
 |f+1,a,l=>if a+2*bs<=n then stM lt n bs f (a+2*bs) (oV lt n l a (a+bs) (a+2*bs))else if a+bs<n then oV lt n l a (a+bs) n else l
def Uh(lt:α->α->Bool)(n:Nat):Nat->Nat->List α->List α
 |0,_,l=>l
 |f+1,bs,l=>if bs<n then Uh lt n f (bs*2) (stM lt n bs (n+1) 0 l)else l
def kf(lt:α->α->Bool)(l:List α):List α:=Uh lt l.length l.length 20 (R6 lt l.length l.length 0 l)
theorem Ai(lt:α->α->Bool)(a:Nat):∀(j:Nat) (l:List α),(wW lt a j l).Perm l
 |0,l=>.refl _
 |j+1,l=>by
  unfold wW;split
  ·exact(Ai lt a j _).trans (qx _ _ _)
  ·exact .refl _
theorem GI(lt:α->α->Bool)(a:Nat):∀(k i:Nat) (l:List α),(Ku lt a k i l).Perm l
 |0,_,l=>.refl _
 |k+1,i,l=>(GI lt a k _ _).trans (Ai _ _ _ _)
theorem vB(lt:α->α->Bool)(l:List α)(a b:Nat):(Ag lt l a b).Perm l:=GI _ _ _ _ _
theorem uN(a b:Nat):∀(k i:Nat) (l:List α),(Kv a b k i l).Perm l
 |0,_,l=>.refl _
 |k+1,i,l=>(uN a b k _ _).trans (qx _ _ _)
theorem Aj(m:Nat):∀(f i j:Nat) (l:List α),(pO m f i j l).Perm l
 |0,_,_,l=>.refl _
 |f+1,i,j,l=>by
  unfold pO;split
  ·grind [uN]
  ·split
   ·exact bB2
   ·exact bB2
theorem Kw:∀(c k:Nat) (l:List α),(shU c k l).Perm l
 |0,_,l=>.refl _
 |c+1,k,l=>(Kw c _ _).trans (qx _ _ _)
theorem Kx:∀(c k:Nat) (l:List α),(shD c k l).Perm l
 |0,_,l=>.refl _
 |c+1,k,l=>(Kx c _ _).trans (qx _ _ _)
theorem qb(lt:α->α->Bool):∀(f:Nat) (l:List α) (a m b:Nat),(oV lt f l a m b).Perm l
 |0,l,_,_,_=>.refl _
 |f+1,l,a,m,b=>by
  unfold oV;split
  ·grind [Kw]
  ·split
   ·grind [Kx]
   ·dsimp only;have h1:(if ir lt l a m b<m/\m<(a+b) / 2+m - ir lt l a m b then pO m ((a+b) / 2+m - ir lt l a m b - ir lt l a m b) (m - ir lt l a m b) ((a+b) / 2+m - ir lt l a m b - m) l else l).Perm l:=by
     split
     ·grind [Aj]
     simp_all
    generalize(if ir lt l a m b<m/\m<(a+b) / 2+m - ir lt l a m b then pO m ((a+b) / 2+m - ir lt l a m b - ir lt l a m b) (m - ir lt l a m b) ((a+b) / 2+m - ir lt l a m b - m) l else l)=l1 at*;have h2:(if a<ir lt l a m b/\ir lt l a m b<(a+b) / 2 then oV lt f l1 a (ir lt l a m b) ((a+b) / 2)else l1).Perm l1:=by
     split
     ·exact qb lt f _ _ _ _
     simp_all
    generalize(if a<ir lt l a m b/\ir lt l a m b<(a+b) / 2 then oV lt f l1 a (ir lt l a m b) ((a+b) / 2)else l1)=l2 at*;split
    ·exact(qb lt f _ _ _ _).trans (h2.trans h1)
    ·exact h2.trans h1
theorem DA(lt:α->α->Bool)(n:Nat):∀(f a:Nat) (l:List α),(R6 lt n f a l).Perm l
 |0,_,l=>vB _ _ _ _
 |f+1,a,l=>by
  unfold R6;split
  ·exact(DA lt n f _ _).trans (vB _ _ _ _)
  ·exact vB _ _ _ _
theorem DB(lt:α->α->Bool)(n bs:Nat):∀(f a:Nat) (l:List α),(stM lt n bs f a l).Perm l
 |0,_,l=>.refl _
 |f+1,a,l=>by
  unfold stM;split
  ·exact(DB lt n bs f _ _).trans (qb _ _ _ _ _ _)
  ·split
   ·grind [qb]
   simp_all
theorem Ky(lt:α->α->Bool)(n:Nat):∀(f bs:Nat) (l:List α),(Uh lt n f bs l).Perm l
 |0,_,l=>.refl _
 |f+1,bs,l=>by
  unfold Uh;split
  ·exact(Ky lt n f _ _).trans (DB _ _ _ _ _ _)
  ·exact .refl _
theorem iT(lt:α->α->Bool)(l:List α):(kf lt l).Perm l:=(Ky _ _ _ _ _).trans (DA _ _ _ _ _)
theorem jS(lt:α->α->Bool)(l:List α):(kf lt l).length=l.length:=(iT lt l).length_eq
theorem aj4(p:Nat->Bool)(f i:Nat):Fk p f i i=i:=by
 cases f<;>grind [Fk]
theorem bj4{p:Nat->Bool}{f:Nat}(h:i<j)(hp:p ((i+j) / 2)=true):Fk p (f+1) i j=Fk p f ((i+j) / 2+1) j:=by
 show(if i<j then _ else _)=_
 grind
theorem bj5{p:Nat->Bool}{f:Nat}(h:i<j)(hp:¬p ((i+j) / 2)=true):Fk p (f+1) i j=Fk p f i ((i+j) / 2):=by
 show(if i<j then _ else _)=_
 grind
theorem yP(p:Nat->Bool):∀(f i j:Nat),i<=j->i<=Fk p f i j/\Fk p f i j<=j
 |0,i,j,h=>⟨ar _,h⟩
 |f+1,i,j,h=>by
  unfold Fk;split
  ·split
   ·have:=yP p f ((i+j) / 2+1) j av;omega
   ·have:=yP p f i ((i+j) / 2) av;omega
  ·omega
theorem R7{a m b:Nat}(h1:a<m)(h2:m<b):a<=B3 a m b/\B3 a m b<=Ah a m b/\Ah a m b<=m/\Ah a m b<=(a+b) / 2/\(∀c,B3 a m b<=c->c<=Ah a m b->m<=(a+b) / 2+m - c/\(a+b) / 2+m - c<=b/\(a+b) / 2<=(a+b) / 2+m - c):=by
 grind [B3,Ah]
end
theorem Ii(i j:Nat)(h:i+j<=4000000000000000000):dV.wrap ((cN.wrap ((i:Int)+j)).fdiv (2^min (Int.toNat 1) cN.bits))=(((i+j)/2:Nat):Int):=by
 grind [ic,gy]
section
variable {α γ:Type}(f:α->γ)(lt:γ->γ->Bool)
theorem vC(l:List α)(i j:Nat):(oU l i j).map f=oU (l.map f) i j:=by
 grind [oU,eZ]
theorem DC(l:List α)(i j:Nat):qM (λx y=>lt (f x) (f y)) l i j=qM lt (l.map f) i j:=by
 grind [qM]
theorem Kz(a:Nat):∀(j:Nat) (l:List α),(wW (λx y=>lt (f x) (f y)) a j l).map f=wW lt a j (l.map f)
 |0,l=>rfl
 |j+1,l=>by
  unfold wW;rw[DC];split
  ·rw[Kz a j,vC]
  ·rfl
theorem KA(a:Nat):∀(k i:Nat) (l:List α),(Ku (λx y=>lt (f x) (f y)) a k i l).map f=Ku lt a k i (l.map f)
 |0,_,l=>rfl
 |k+1,i,l=>by
  unfold Ku;rw[KA a k,Kz]
theorem DE(l:List α)(a b:Nat):(Ag (λx y=>lt (f x) (f y)) l a b).map f=Ag lt (l.map f) a b:=KA f lt _ _ _ _
theorem Cr(a b:Nat):∀(k i:Nat) (l:List α),(Kv a b k i l).map f=Kv a b k i (l.map f)
 |0,_,l=>rfl
 |k+1,i,l=>by
  unfold Kv;rw[Cr a b k,vC]
theorem DF(m:Nat):∀(g i j:Nat) (l:List α),(pO m g i j l).map f=pO m g i j (l.map f)
 |0,_,_,l=>rfl
 |g+1,i,j,l=>by
  unfold pO;split
  ·exact Cr f _ _ _ _ _
  ·split
   ·rw[DF m g,Cr]
   ·rw[DF m g,Cr]
theorem P6:∀(c k:Nat) (l:List α),(shU c k l).map f=shU c k (l.map f)
 |0,_,l=>rfl
 |c+1,k,l=>by
  unfold shU;rw[P6 c,vC]
theorem P7:∀(c k:Nat) (l:List α),(shD c k l).map f=shD c k (l.map f)
 |0,_,l=>rfl
 |c+1,k,l=>by
  unfold shD;rw[P7 c,vC]
theorem WR(l:List α)(a m b:Nat):ir (λx y=>lt (f x) (f y)) l a m b=ir lt (l.map f) a m b:=by
 grind [ir,DC]
theorem yQ:∀(g:Nat) (l:List α) (a m b:Nat),(oV (λx y=>lt (f x) (f y)) g l a m b).map f=oV lt g (l.map f) a m b
 |0,l,_,_,_=>rfl
 |g+1,l,a,m,b=>by
  unfold oV
  simp only[DC,WR]
  split
  ·grind [P6]
  ·split
   ·grind [P7]
   ·generalize ir lt (l.map f) a m b=s;have h1:(if s<m/\m<(a+b) / 2+m - s then pO m ((a+b) / 2+m - s - s) (m - s) ((a+b) / 2+m - s - m) l else l).map f=if s<m/\m<(a+b) / 2+m - s then pO m ((a+b) / 2+m - s - s) (m - s) ((a+b) / 2+m - s - m) (l.map f)else l.map f:=by
     grind [DF]
    rw[<-h1];generalize(if s<m/\m<(a+b) / 2+m - s then pO m ((a+b) / 2+m - s - s) (m - s) ((a+b) / 2+m - s - m) l else l)=l1;have h2:(if a<s/\s<(a+b) / 2 then oV (λx y=>lt (f x) (f y)) g l1 a s ((a+b) / 2)else l1).map f=if a<s/\s<(a+b) / 2 then oV lt g (l1.map f) a s ((a+b) / 2)else l1.map f:=by
     split
     ·exact yQ g _ _ _ _
     ·rfl
    rw[<-h2];generalize(if a<s/\s<(a+b) / 2 then oV (λx y=>lt (f x) (f y)) g l1 a s ((a+b) / 2)else l1)=l2;split
    ·exact yQ g _ _ _ _
    ·rfl
theorem P8(n:Nat):∀(g a:Nat) (l:List α),(R6 (λx y=>lt (f x) (f y)) n g a l).map f=R6 lt n g a (l.map f)
 |0,_,l=>DE f lt _ _ _
 |g+1,a,l=>by
  unfold R6;split
  ·rw[P8 n g,DE]
  ·exact DE f lt _ _ _
theorem P9(n bs:Nat):∀(g a:Nat) (l:List α),(stM (λx y=>lt (f x) (f y)) n bs g a l).map f=stM lt n bs g a (l.map f)
 |0,_,l=>rfl
 |g+1,a,l=>by
  unfold stM;split
  ·rw[P9 n bs g,yQ]
  ·split
   ·exact yQ f lt _ _ _ _ _
   ·rfl
theorem P'(n:Nat):∀(g bs:Nat) (l:List α),(Uh (λx y=>lt (f x) (f y)) n g bs l).map f=Uh lt n g bs (l.map f)
 |0,_,l=>rfl
 |g+1,bs,l=>by
  unfold Uh;split
  ·rw[P' n g,P9]
  ·rfl
theorem DG(l:List α):(kf (λx y=>lt (f x) (f y)) l).map f=kf lt (l.map f):=by
 unfold kf;rw[P',P8,aA]
end
section
set_option maxRecDepth 100000
abbrev WS(T:Type)(en:T->List Value)(e0 z0 f_:Nat):Prop:=∀(G:bZ) (cmp:Value) (a:Option Addr) (c a0 b0 cn:Nat) (A B C:Int) (hA:A=a0) (hB:B=b0) (hC:C=cn) (l:List T) (ha:a0+cn<=l.length) (Fg:b0+cn<=l.length) (hs:l.length<=1000000000000),TR ab G f_ #[.slice a l.length c,.int .i64 A,.int .i64 B,.int .i64 C,cmp] [own e0 z0 a l.length c (l.flatMap en)]
 (cb λv B=>v=.tuple #[]/\B=[own e0 z0 a l.length c ((Kv a0 b0 cn 0 l).flatMap en)])
abbrev WT(T:Type)(en:T->List Value)(e0 z0 f_:Nat):Prop:=∀(G:bZ) (cmp:Value) (a:Option Addr) (c a0 m0 b0:Nat) (A M B:Int) (hA:A=a0) (hM:M=m0) (hB:B=b0) (l:List T) (h1:a0<m0) (h2:m0<b0) (Fg:b0<=l.length) (hs:l.length<=1000000000000),TR ab G f_ #[.slice a l.length c,.int .i64 A,.int .i64 M,.int .i64 B,cmp] [own e0 z0 a l.length c (l.flatMap en)]
 (cb λv B=>v=.tuple #[]/\B=[own e0 z0 a l.length c ((pO m0 (b0 - a0) (m0 - a0) (b0 - m0) l).flatMap en)])
abbrev WU(T:Type)(en:T->List Value)(e0 z0 f_:Nat):Prop:=∀(G:bZ) (cf:T->T->Int) (fc:Nat) [CF ab fc] (hc:∀x y:T,TR ab G fc #[.agg (en x).toArray,.agg (en y).toArray] [] (cT (.int .i64 (cf x y)))) (a:Option Addr) (c a0 b0:Nat) (A B:Int) (hA:A=a0) (hB:B=b0) (l:List T) (Fg:b0<=l.length) (ha0:a0<=l.length) (hs:l.length<=1000000000000),TR ab G f_ #[.slice a l.length c,.int .i64 A,.int .i64 B,.func (.func fc) #[] #[]] [own e0 z0 a l.length c (l.flatMap en)]
 (cb λv B=>v=.tuple #[]/\B=[own e0 z0 a l.length c ((Ag (λx y=>decide (cf x y<0)) l a0 b0).flatMap en)])
abbrev WV(T:Type)(en:T->List Value)(e0 z0 f_:Nat):Prop:=∀(G:bZ) (cf:T->T->Int) (fc:Nat) [CF ab fc] (hc:∀x y:T,TR ab G fc #[.agg (en x).toArray,.agg (en y).toArray] [] (cT (.int .i64 (cf x y)))),∀(f:Nat) (a:Option Addr) (c a0 m0 b0:Nat) (A M B:Int) (_:A=a0) (_:M=m0) (_:B=b0) (l:List T) (_:a0<m0) (_:m0<b0) (_:b0<=l.length) (_:b0 - a0<=f) (_:l.length<=1000000000000),
 TR ab G f_ #[.slice a l.length c,.int .i64 A,.int .i64 M,.int .i64 B,.func (.func fc) #[] #[]] [own e0 z0 a l.length c (l.flatMap en)]
  (cb λv B=>v=.tuple #[]/\B=[own e0 z0 a l.length c ((oV (λx y=>decide (cf x y<0)) f l a0 m0 b0).flatMap en)])
abbrev WW(T:Type)(en:T->List Value)(e0 z0 f_:Nat):Prop:=∀(G:bZ) (cf:T->T->Int) (fc:Nat) [CF ab fc] (hc:∀x y:T,TR ab G fc #[.agg (en x).toArray,.agg (en y).toArray] [] (cT (.int .i64 (cf x y)))) (a:Option Addr) (c:Nat) (l:List T) (hs:l.length<=1000000000000),TR ab G f_ #[.slice a l.length c,.int .i64 l.length,.func (.func fc) #[] #[]] [own e0 z0 a l.length c (l.flatMap en)]
 (cb λv B=>v=.tuple #[]/\B=[own e0 z0 a l.length c ((kf (λx y=>decide (cf x y<0)) l).flatMap en)])
abbrev DI(T:Type)(en:T->List Value)(e0 z0 f_:Nat):Prop:=∀(G:bZ) (cf:T->T->Int) (fc:Nat) [CF ab fc] (hc:∀x y:T,TR ab G fc #[.agg (en x).toArray,.agg (en y).toArray] [] (cT (.int .i64 (cf x y)))) (a:Option Addr) (n c:Nat) (l:List T) (hn:l.length=n) (hs:n<=1000000000000),TR ab G f_ #[.slice a n c,.func (.func fc) #[] #[]] [own e0 z0 a n c (l.flatMap en)]
 (cb λv B=>v=.tuple #[]/\B=[own e0 z0 a n c ((kf (λx y=>decide (cf x y<0)) l).flatMap en)])
theorem WX(h:p:=by
 subst hA hB hC;refine TR.go (us:=[_,_,_,_,_]) (aI U) λb β hb hG=>xS ?_;refine X.loop (ι:={q:Nat×Nat×List T // q.2.1+q.1=cn/\q.2.2.length=l.length/\Kv a0 b0 q.1 q.2.1 q.2.2=Kv a0 b0 cn 0 l})
  (λq=>([(0,.slice a l.length c),(1,.int .i64 a0),(2,.int .i64 b0),(3,.int .i64 cn),(10,.int .i64 (q.1.2.1:Int))],[own e0 z0 a l.length c (q.1.2.2.flatMap en)])) (λq=>q.1.1) ⟨(cn,0,l),by simp,U,U⟩ (Sub.of U) ay ?_
 rintro⟨⟨k,i,m⟩,h1,h2,h3⟩ ih;dsimp only at h1 h2 h3 ⊢;refine xB ?_ ?_<;>intro h
 ·have hi:i<cn:=by simpa using h
  obtain⟨k,rfl⟩:∃k',k=k'+1:=⟨k - 1,by omega⟩;have jz:b0+i<m.length:=av;have mD:a0+i<m.length:=av;refine xS ?_;refine gV a av λg hg=>?_;subst hg;refine fM (uC [0,1,2,3,4,5,6,7,8,9,10,11,12,14,15,16,17,18,20,22]) [] U ?_;apply cW [0,1,2,3,4,5,6,7,8,9,10,11,12,14,15,16,17,18] U U U
  ·intro p hp;refine xS ?_;refine du (j:=b0+i) U U U U av av (xS ?_);refine du (j:=a0+i) U U U U av av (xS ?_);exact hp
  ·rfl
  ·rfl
  refine dA U U U U U ?_ ?_
  ·refine gN (bo:=en) (l:=m) (b0+i) U U U U (λ_=>rfl) (aQ _) jz (xS ?_);refine gN (bo:=en) (l:=m) (a0+i) U U U U (λ_=>rfl) (aQ _) mD (xS ?_);exact au2
  ·refine gN (bo:=en) (l:=m) (a0+i) U U U U (λ_=>rfl) (aQ _) mD (xS ?_);refine gN (bo:=en) (l:=m) (b0+i) U U U U (λ_=>rfl) (aQ _) jz (xS ?_);exact au2
 ·have hi:i=cn:=by simp at h;omega
  obtain rfl:k=0:=av;refine xS ?_;rw[show Kv a0 b0 0 i m=m from rfl]at h3;subst h3;exact xF
):p:=h
theorem WY(h:p:=by
 subst hA hM hB
 refine TR.go (us:=[_,_,_,_,_]) (aI U) λb β hb hG=>?_
 refine xS ?_
 generalize bu:pO m0 (b0 - a0) (m0 - a0) (b0 - m0) l=res
 refine X.loop (ι:={q:Nat×Nat×Nat×List T // 0<q.2.1/\0<q.2.2.1/\q.2.1<=m0/\m0+q.2.2.1<=l.length/\q.2.1+q.2.2.1<=q.1/\q.2.2.2.length=l.length/\pO m0 q.1 q.2.1 q.2.2.1 q.2.2.2=res})
  (λq=>([(0,.slice a l.length c),(1,.int .i64 a0),(2,.int .i64 m0),(3,.int .i64 b0),(4,cmp),(10,.int .i64 (q.1.2.1:Int)),(11,.int .i64 (q.1.2.2.1:Int))],[own e0 z0 a l.length c (q.1.2.2.2.flatMap en)])) (λq=>q.1.2.1+q.1.2.2.1) ⟨(b0 - a0,m0 - a0,b0 - m0,l),by dsimp only;omega,by dsimp only;omega,by dsimp only;omega,by dsimp only;omega,by dsimp only;omega,U,bu⟩
  (Sub.cons U (Sub.cons U (Sub.cons U (Sub.cons U (Sub.cons U (Sub.cons (eN U (by simp;omega)) (Sub.cons (eN U (by simp;omega)) (Sub.nil _)))))))) ay ?_
 clear bu
 rintro⟨⟨f,i,j,q⟩,g1,g2,g3,g4,g5,g6,g7⟩ ih
 dsimp only at g1 g2 g3 g4 g5 g6 g7 ⊢
 obtain⟨f,rfl⟩:∃k,f=k+1:=⟨f - 1,by omega⟩
 have e1:pO m0 (f+1) i j q=if i=j then Kv (m0 - i) m0 i 0 q else if j<i then pO m0 f (i - j) j (Kv (m0 - i) m0 j 0 q)else pO m0 f i (j - i) (Kv (m0 - i) (m0+j - i) i 0 q):=U
 refine xS ?_
 refine X.cond U (λh=>?_) (λh=>?_)
 ·have xG:i≠j:=by simp at h;omega
  rw[if_neg xG]at e1
  refine xS ?_
  refine X.cond U (λh3=>?_) (λh3=>?_)
  ·have h3:j<i:=by simpa using h3
   rw[if_pos h3]at e1
   refine xS ?_
   rw[<-g6]
   refine ei hG (DJ G cmp a c (m0 - i) m0 j _ _ _ (by omega) U U q (by omega) (by omega) (by omega)) U U U aN.es ?_
   rintro v B ⟨rfl,rfl⟩
   dsimp only[ae,ai,ah]
   rw[g6]
   refine xS ?_
   refine X.less (ih ⟨(f,i - j,j,Kv (m0 - i) m0 j 0 q),by dsimp only;omega,g2,by dsimp only;omega,g4,by dsimp only;omega,by rw[(uN _ _ _ _ _).length_eq];exact g6,by rw[<-g7,e1]⟩ (by dsimp only;omega)) (Sub.cons U (Sub.cons U (Sub.cons U (Sub.cons U (Sub.cons U (Sub.cons (eN U (by simp;omega)) (Sub.cons U (Sub.nil _)))))))) ay
  ·have h3:¬j<i:=by simpa using h3
   rw[if_neg h3]at e1
   refine xS ?_
   rw[<-g6]
   refine ei hG (DJ G cmp a c (m0 - i) (m0+j - i) i _ _ _ (by omega) (by omega) U q (by omega) (by omega) (by omega)) U U U aN.es ?_
   rintro v B ⟨rfl,rfl⟩
   dsimp only[ae,ai,ah]
   rw[g6]
   refine xS ?_
   refine X.less (ih ⟨(f,i,j - i,Kv (m0 - i) (m0+j - i) i 0 q),g1,by dsimp only;omega,g3,by dsimp only;omega,by dsimp only;omega,by rw[(uN _ _ _ _ _).length_eq];exact g6,by rw[<-g7,e1]⟩ (by dsimp only;omega)) (Sub.cons U (Sub.cons U (Sub.cons U (Sub.cons U (Sub.cons U (Sub.cons U (Sub.cons (eN U (by simp;omega)) (Sub.nil _)))))))) ay
 ·have xG:i=j:=by simp at h;omega
  subst xG
  rw[if_pos U]at e1
  refine xS ?_
  rw[<-g6]
  refine ei hG (DJ G cmp a c (m0 - i) m0 i _ _ _ (by omega) U U q (by omega) (by omega) (by omega)) U U U aN.es ?_
  rintro v B ⟨rfl,rfl⟩
  dsimp only[ae,ai,ah]
  rw[g6]
  refine xS ?_
  exact X.fin hb (.tmps U) ⟨_,⟨U,U⟩,by rw[<-g7,e1];exact ay⟩
):p:=h
theorem WZ(h:p:=by
 subst hA hB;refine TR.go (us:=[_,_,_,_]) (aI U) λb β hb hG=>?_;generalize tV:(λx y=>decide (cf x y<0))=lt;have W1:∀x y,lt x y=decide (cf x y<0):=λx y=>by rw[<-tV]
 refine xS ?_;refine X.loop (ι:={q:Nat×List T // a0+1<=q.1/\q.2.length=l.length/\Ku lt a0 (b0 - q.1) q.1 q.2=Ag lt l a0 b0})
  (λq=>([(0,.slice a l.length c),(1,.int .i64 a0),(2,.int .i64 b0),(3,.func (.func fc) #[] #[]),(8,.int .i64 (q.1.1:Int))],[own e0 z0 a l.length c (q.1.2.flatMap en)])) (λq=>b0 - q.1.1) ⟨(a0+1,l),ar _,U,U⟩ (Y7 U U U U (eN U nH)) ay ?_
 rintro⟨⟨i,m⟩,h1,h2,h3⟩ ih;dsimp only at h1 h2 h3 ⊢;refine xB ?_ ?_<;>intro h
 ·have hi:i<b0:=by simpa using h
  refine xS ?_;refine nh (ι:={q:List T // q=wW lt a0 i m}) (λq=>([(0,.slice a l.length c),(1,.int .i64 a0),(2,.int .i64 b0),(3,.func (.func fc) #[] #[]),(8,.int .i64 (i:Int))],[own e0 z0 a l.length c (q.1.flatMap en)])) (λq=>?_) (λK fin=>?_)
  ·obtain⟨q,rfl⟩:=q;dsimp only;refine xS ?_;refine X.less (ih ⟨(i+1,wW lt a0 i m),by dsimp only;omega,by rw[(Ai lt a0 i m).length_eq];exact h2,?_⟩ gm) (Y7 U U U U (eN U nH)) ay;rw[<-h3,show b0 - i=(b0 - (i+1))+1 from by omega];rfl
  ·refine X.loop (ι:={q:Nat×List T // q.1<=i/\q.2.length=l.length/\wW lt a0 q.1 q.2=wW lt a0 i m})
    (λq=>([(0,.slice a l.length c),(1,.int .i64 a0),(2,.int .i64 b0),(3,.func (.func fc) #[] #[]),(8,.int .i64 (i:Int)),(9,.int .i64 (q.1.1:Int))],[own e0 z0 a l.length c (q.1.2.flatMap en)])) (λq=>q.1.1) ⟨(i,m),ar _,h2,U⟩ (Sub.of U) ay ?_
   rintro⟨⟨j,q⟩,g1,g2,g3⟩ pG;dsimp only at g1 g2 g3 ⊢;by_cases hj:a0<j
   ·obtain⟨j,rfl⟩:∃k,j=k+1:=⟨j - 1,by omega⟩;have jz:j+1<q.length:=av;have mD:j<q.length:=av;refine xS ?_;refine gV a av λg hg=>?_;subst hg;refine fM (uC [0,1,2,3,4,5,6,7,8,9,10,11,12,13,15,16]) [own e0 z0 (some ⟨g,0,none⟩) l.length c (q.flatMap en)] U ?_;apply cW [0,1,2,3,4,5,6,7,8,9,10,11,12,13] U U U
    ·intro p hp;refine xS ?_;refine aM 21 true U bB (xS ?_);refine du (j:=j+1) U U U U av av (xS ?_);refine gN (bo:=en) (l:=q) (j+1) U U U U (λ_=>rfl) (aQ _) jz (xS ?_);refine du (j:=j) U U U U av av (xS ?_);refine gN (bo:=en) (l:=q) j U U U U (λ_=>rfl) (aQ _) mD (xS ?_);exact hp
    ·rfl
    ·rfl
    refine xS ?_;refine ng (fst:=[]) (us:=[_,_]) (cap:=[]) hG (hc q[j+1] q[j]) U U U U  ?_;refine xB ?_ ?_<;>intro h5
    ·have h6:qM lt q (j+1) j=true:=by rw[Cq lt jz mD,W1];exact h5
     refine xS ?_;refine fM (uC [0,1,2,3,4,5,6,7,8,10,11,12,14,16]) [] U ?_;apply cW [0,1,2,3,4,5,6,7,8,10,11,12] U U U
     ·intro p hp;refine xS ?_;refine du (j:=j) U U U U av av (xS ?_);refine du (j:=j+1) U U U U av av (xS ?_);exact hp
     ·rfl
     ·rfl
     refine dA U U U U U ?_ ?_
     ·refine gN (bo:=en) (l:=q) (j) U U U U (λ_=>rfl) (aQ _) mD (xS ?_);refine gN (bo:=en) (l:=q) (j+1) U U U U (λ_=>rfl) (aQ _) jz (xS ?_);exact Rv
     ·refine gN (bo:=en) (l:=q) (j+1) U U U U (λ_=>rfl) (aQ _) jz (xS ?_);refine gN (bo:=en) (l:=q) (j) U U U U (λ_=>rfl) (aQ _) mD (xS ?_);exact Rv
    ·have h6:¬qM lt q (j+1) j=true:=by rw[Cq lt jz mD,W1];simpa using h5
     have g4:wW lt a0 (j+1) q=q:=by unfold wW;rw[if_neg (λhh=>h6 hh.2)]
     rw[g4]at g3;refine xS ?_;exact X.W (fin ⟨q,g3⟩)
   ·have g4:wW lt a0 j q=q:=by
     cases j with
     |zero=>rfl
     |succ j=>unfold wW;rw[if_neg (λhh=>hj hh.1)]
    rw[g4]at g3;refine xS ?_;refine fM (uC [0,1,2,3,4,5,6,7,8,9,10,11,12,13,14,15,16]) [] U ?_;apply cW [0,1,2,3,4,5,6,7,8,9,10,11,12,13,14,15,16] U U U
    ·intro p hp;refine xS ?_;refine aM 21 false U bB (xS ?_);exact hp
    ·rfl
    ·rfl
    refine xS ?_;exact X.W (fin ⟨q,g3⟩)
 ·have hi:b0 - i=0:=by simp at h;omega
  refine xS ?_;rw[hi]at h3;rw[show Ku lt a0 0 i m=m from rfl]at h3;subst h3;exact xF
):p:=h
theorem W3(h:p:=by
 subst hA hM hB;refine TR.go (us:=[_,_,_,_,_]) (aI U) λb β hb hG=>?_;generalize tV:(λx y=>decide (cf x y<0))=lt at*;have W1:∀x y,lt x y=decide (cf x y<0):=λx y=>by rw[<-tV]
 have e1:oV lt (f+1) l a0 m0 b0=
  if m0 - a0=1 then shU (Fk (λh=>qM lt l h a0) (b0 - m0) m0 b0 - 1 - a0) a0 l
  else if b0 - m0=1 then shD (m0 - Fk (λh=> !qM lt l m0 h) (m0 - a0) a0 m0) m0 l
  else
   if(a0+b0) / 2<(a0+b0) / 2+m0 - ir lt l a0 m0 b0/\(a0+b0) / 2+m0 - ir lt l a0 m0 b0<b0 then
    oV lt f (if a0<ir lt l a0 m0 b0/\ir lt l a0 m0 b0<(a0+b0) / 2 then oV lt f (if ir lt l a0 m0 b0<m0/\m0<(a0+b0) / 2+m0 - ir lt l a0 m0 b0 then pO m0 ((a0+b0) / 2+m0 - ir lt l a0 m0 b0 - ir lt l a0 m0 b0) (m0 - ir lt l a0 m0 b0) ((a0+b0) / 2+m0 - ir lt l a0 m0 b0 - m0) l else l) a0 (ir lt l a0 m0 b0) ((a0+b0) / 2)
     else if ir lt l a0 m0 b0<m0/\m0<(a0+b0) / 2+m0 - ir lt l a0 m0 b0 then pO m0 ((a0+b0) / 2+m0 - ir lt l a0 m0 b0 - ir lt l a0 m0 b0) (m0 - ir lt l a0 m0 b0) ((a0+b0) / 2+m0 - ir lt l a0 m0 b0 - m0) l else l) ((a0+b0) / 2) ((a0+b0) / 2+m0 - ir lt l a0 m0 b0) b0
   else(if a0<ir lt l a0 m0 b0/\ir lt l a0 m0 b0<(a0+b0) / 2 then oV lt f (if ir lt l a0 m0 b0<m0/\m0<(a0+b0) / 2+m0 - ir lt l a0 m0 b0 then pO m0 ((a0+b0) / 2+m0 - ir lt l a0 m0 b0 - ir lt l a0 m0 b0) (m0 - ir lt l a0 m0 b0) ((a0+b0) / 2+m0 - ir lt l a0 m0 b0 - m0) l else l) a0 (ir lt l a0 m0 b0) ((a0+b0) / 2)
    else if ir lt l a0 m0 b0<m0/\m0<(a0+b0) / 2+m0 - ir lt l a0 m0 b0 then pO m0 ((a0+b0) / 2+m0 - ir lt l a0 m0 b0 - ir lt l a0 m0 b0) (m0 - ir lt l a0 m0 b0) ((a0+b0) / 2+m0 - ir lt l a0 m0 b0 - m0) l else l):=U
 generalize oV lt (f+1) l a0 m0 b0=res at*;refine xB ?_ ?_<;>intro h
 ·have h3:m0 - a0=1:=by simp at h;omega
  rw[if_pos h3]at e1;generalize hp:(λh=>qM lt l h a0)=p at*;have tK:∀h,p h=qM lt l h a0:=λh=>by rw[<-hp]
  refine xS ?_;have hI:=yP p (b0 - m0) m0 b0 av;generalize hIe:Fk p (b0 - m0) m0 b0=I at*;refine nh (ι:=Unit) (λ_=>([(0,.slice a l.length c),(1,.int .i64 a0),(2,.int .i64 m0),(3,.int .i64 b0),(4,.func (.func fc) #[] #[]),(10,.int .i64 (I:Int))],[own e0 z0 a l.length c (l.flatMap en)])) (λ_=>?_) (λK fin=>?_)
  ·dsimp only;refine xS ?_;refine X.loop (ι:={q:Nat×Nat×List T // q.2.1+q.1=I - 1/\q.2.2.length=l.length/\shU q.1 q.2.1 q.2.2=res})
    (λq=>([(0,.slice a l.length c),(1,.int .i64 a0),(2,.int .i64 m0),(3,.int .i64 b0),(4,.func (.func fc) #[] #[]),(10,.int .i64 (I:Int)),(13,.int .i64 (q.1.2.1:Int))],[own e0 z0 a l.length c (q.1.2.2.flatMap en)])) (λq=>q.1.1) ⟨(I - 1 - a0,a0,l),by dsimp only;omega,U,e1.symm⟩ (Sub.of U) ay ?_
   rintro⟨⟨cn,k,q⟩,g1,g2,g3⟩ ih;dsimp only at g1 g2 g3 ⊢;refine xB ?_ ?_<;>intro h4
   ·have h4:k+1<I:=by simp at h4;omega
    obtain⟨cn,rfl⟩:∃w,cn=w+1:=⟨cn - 1,by omega⟩;have jz:k<q.length:=av;have mD:k+1<q.length:=av;refine xS ?_;refine gV a av λg hg=>?_;subst hg;refine fM (uC [0,1,2,3,4,5,6,7,8,10,11,12,14,16]) [] U ?_;apply cW [0,1,2,3,4,5,6,7,8,10,11,12] U U U
    ·intro p hp;refine xS ?_;refine du (j:=k+1) U U U U av av (xS ?_);exact aD3
    ·rfl
    ·rfl
    refine dA U U U U U ?_ ?_
    ·refine gN (bo:=en) (l:=q) (k+1) U U U U (λ_=>rfl) (aQ _) mD (xS ?_);refine gN (bo:=en) (l:=q) (k) U U U U (λ_=>rfl) (aQ _) jz (xS ?_);exact bk4
    ·refine gN (bo:=en) (l:=q) (k) U U U U (λ_=>rfl) (aQ _) jz (xS ?_);refine gN (bo:=en) (l:=q) (k+1) U U U U (λ_=>rfl) (aQ _) mD (xS ?_);exact bk4
   ·have h4:cn=0:=by simp at h4;omega
    subst h4;rw[show shU 0 k q=q from rfl]at g3;subst g3;exact xR
  ·refine X.loop (ι:={q:Nat×Nat×Nat // q.2.1<=q.2.2/\m0<=q.2.1/\q.2.2<=b0/\q.2.2 - q.2.1<=q.1/\Fk p q.1 q.2.1 q.2.2=I})
    (λq=>([(0,.slice a l.length c),(1,.int .i64 a0),(2,.int .i64 m0),(3,.int .i64 b0),(4,.func (.func fc) #[] #[]),(10,.int .i64 (q.1.2.1:Int)),(11,.int .i64 (q.1.2.2:Int))],[own e0 z0 a l.length c (l.flatMap en)])) (λq=>q.1.2.2 - q.1.2.1) ⟨(b0 - m0,m0,b0),by dsimp only;omega,ar _,ar _,ar _,hIe⟩ (Sub.of U) ay ?_
   rintro⟨⟨f2,i,j⟩,g1,g2,g3,g4,g5⟩ ih;dsimp only at g1 g2 g3 g4 g5 ⊢;refine xB ?_ ?_<;>intro h4
   ·have h4:i<j:=by simpa using h4
    obtain⟨f3,rfl⟩:∃k,f2=k+1:=⟨f2 - 1,by omega⟩;refine xS ?_;rw[Ii i j av];have jz:(i+j) / 2<l.length:=av;have mD:a0<l.length:=av;refine gV a av λg hg=>?_;subst hg;refine fM (uC [0,1,2,3,4,5,6,7,8,10]) [own e0 z0 (some ⟨g,0,none⟩) l.length c (l.flatMap en)] U ?_;apply cW [0,1,2,3,4,5,6,7,8] U U U
    ·intro pp B4;refine xS ?_;refine du (j:=(i+j) / 2) U U U U av av (xS ?_);refine gN (bo:=en) (l:=l) ((i+j) / 2) U U U U (λ_=>rfl) (aQ _) jz (xS ?_);refine du (j:=a0) U U U U av av (xS ?_);refine gN (bo:=en) (l:=l) (a0) U U U U (λ_=>rfl) (aQ _) mD (xS ?_);exact B4
    ·rfl
    ·rfl
    refine xS ?_;refine ng (fst:=[]) (us:=[_,_]) (cap:=[]) hG (hc l[(i+j) / 2] l[a0]) U U U U  ?_;exact bj8
   exact Xh
 ·have h3:¬m0 - a0=1:=by simp at h;omega
  rw[if_neg h3]at e1;refine xB ?_ ?_<;>intro h7
  ·have h8:b0 - m0=1:=by simp at h7;omega
   rw[if_pos h8]at e1;generalize hp:(λh=> !qM lt l m0 h)=p at*;have tK:∀h,p h= !qM lt l m0 h:=λh=>by rw[<-hp]
   refine xS ?_;have hI:=yP p (m0 - a0) a0 m0 av;generalize hIe:Fk p (m0 - a0) a0 m0=I at*;refine nh (ι:=Unit) (λ_=>([(0,.slice a l.length c),(1,.int .i64 a0),(2,.int .i64 m0),(3,.int .i64 b0),(4,.func (.func fc) #[] #[]),(14,.int .i64 (I:Int))],[own e0 z0 a l.length c (l.flatMap en)])) (λ_=>?_) (λK fin=>?_)
   ·dsimp only;refine xS ?_;refine X.loop (ι:={q:Nat×Nat×List T // q.2.1=I+q.1/\q.2.1<=m0/\q.2.2.length=l.length/\shD q.1 q.2.1 q.2.2=res})
     (λq=>([(0,.slice a l.length c),(1,.int .i64 a0),(2,.int .i64 m0),(3,.int .i64 b0),(4,.func (.func fc) #[] #[]),(14,.int .i64 (I:Int)),(17,.int .i64 (q.1.2.1:Int))],[own e0 z0 a l.length c (q.1.2.2.flatMap en)])) (λq=>q.1.1) ⟨(m0 - I,m0,l),by dsimp only;omega,ar _,U,e1.symm⟩ (Sub.of U) ay ?_
    rintro⟨⟨cn,k,q⟩,g1,g0,g2,g3⟩ ih;dsimp only at g0 g1 g2 g3 ⊢;refine xB ?_ ?_<;>intro h4
    ·have h4:I<k:=by simp at h4;omega
     obtain⟨cn,rfl⟩:∃w,cn=w+1:=⟨cn - 1,by omega⟩;have jz:k<q.length:=av;have mD:k - 1<q.length:=av;refine xS ?_;refine gV a av λg hg=>?_;subst hg;refine fM (uC [0,1,2,3,4,5,6,7,8,10,11,12,14,16]) [] U ?_;apply cW [0,1,2,3,4,5,6,7,8,10,11,12] U U U
     ·intro p hp;refine xS ?_;refine du (j:=k - 1) U U U U av av (xS ?_);exact aD3
     ·rfl
     ·rfl
     refine dA U U U U U ?_ ?_
     ·refine gN (bo:=en) (l:=q) (k - 1) U U U U (λ_=>rfl) (aQ _) mD (xS ?_);refine gN (bo:=en) (l:=q) (k) U U U U (λ_=>rfl) (aQ _) jz (xS ?_);exact XH
     ·refine gN (bo:=en) (l:=q) (k) U U U U (λ_=>rfl) (aQ _) jz (xS ?_);refine gN (bo:=en) (l:=q) (k - 1) U U U U (λ_=>rfl) (aQ _) mD (xS ?_);exact XH
    ·have h4:cn=0:=by simp at h4;omega
     subst h4;rw[show shD 0 k q=q from rfl]at g3;subst g3;exact xR
   ·refine X.loop (ι:={q:Nat×Nat×Nat // q.2.1<=q.2.2/\a0<=q.2.1/\q.2.2<=m0/\q.2.2 - q.2.1<=q.1/\Fk p q.1 q.2.1 q.2.2=I})
     (λq=>([(0,.slice a l.length c),(1,.int .i64 a0),(2,.int .i64 m0),(3,.int .i64 b0),(4,.func (.func fc) #[] #[]),(14,.int .i64 (q.1.2.1:Int)),(15,.int .i64 (q.1.2.2:Int))],[own e0 z0 a l.length c (l.flatMap en)])) (λq=>q.1.2.2 - q.1.2.1) ⟨(m0 - a0,a0,m0),by dsimp only;omega,ar _,ar _,ar _,hIe⟩ (Sub.of U) ay ?_
    rintro⟨⟨f2,i,j⟩,g1,g2,g3,g4,g5⟩ ih;dsimp only at g1 g2 g3 g4 g5 ⊢;refine xB ?_ ?_<;>intro h4
    ·have h4:i<j:=by simpa using h4
     obtain⟨f3,rfl⟩:∃k,f2=k+1:=⟨f2 - 1,by omega⟩;refine xS ?_;rw[Ii i j av];have mD:(i+j) / 2<l.length:=av;have jz:m0<l.length:=av;refine gV a av λg hg=>?_;subst hg;refine fM (uC [0,1,2,3,4,5,6,7,8,10,11]) [own e0 z0 (some ⟨g,0,none⟩) l.length c (l.flatMap en)] U ?_;apply cW [0,1,2,3,4,5,6,7,8] U U U
     ·intro pp B4;refine xS ?_;refine du (j:=m0) U U U U av av (xS ?_);refine gN (bo:=en) (l:=l) (m0) U U U U (λ_=>rfl) (aQ _) jz (xS ?_);exact bB3
     ·rfl
     ·rfl
     refine xS ?_;refine ng (fst:=[]) (us:=[_,_]) (cap:=[]) hG (hc l[m0] l[(i+j) / 2]) U U U U  ?_;exact bj8
    exact Xh
  ·have h8:¬b0 - m0=1:=by simp at h7;omega
   rw[if_neg h8]at e1;obtain⟨r1,r2,r3,r4,r5⟩:=R7 h1 h2;have hT:ir lt l a0 m0 b0=Fk (λc=> !qM lt l ((a0+b0) / 2+m0 - 1 - c) c) (Ah a0 m0 b0 - B3 a0 m0 b0) (B3 a0 m0 b0) (Ah a0 m0 b0):=U;have hI:=yP (λc=> !qM lt l ((a0+b0) / 2+m0 - 1 - c) c) (Ah a0 m0 b0 - B3 a0 m0 b0) (B3 a0 m0 b0) (Ah a0 m0 b0) r2;rw[<-hT]at hI;have hS:B3 a0 m0 b0=if(a0+b0) / 2<m0 then(a0+b0) / 2+m0 - b0 else a0:=U;have hR:Ah a0 m0 b0=if(a0+b0) / 2<m0 then(a0+b0) / 2 else m0:=U;generalize hp:(λc=> !qM lt l ((a0+b0) / 2+m0 - 1 - c) c)=p at*;have tK:∀h,p h= !qM lt l ((a0+b0) / 2+m0 - 1 - h) h:=λh=>by rw[<-hp]
   clear hp;have hmd1:a0<=(a0+b0) / 2/\(a0+b0) / 2<b0/\a0<(a0+b0) / 2:=av;have hmd2:(a0+b0) / 2<m0->b0<=(a0+b0) / 2+m0:=av;refine xS ?_;rw[Ii a0 b0 av];refine xS ?_;generalize B3 a0 m0 b0=s0 at*;generalize Ah a0 m0 b0=r0 at*;generalize hIe:ir lt l a0 m0 b0=I at*;generalize(a0+b0) / 2=md at*;have hIe:=hT.symm;clear hT;refine jI (ι:=Unit) (λ_=>([(0,.slice a l.length c),(1,.int .i64 a0),(2,.int .i64 m0),(3,.int .i64 b0),(4,.func (.func fc) #[] #[]),(18,.int .i64 (md:Int)),(19,.int .i64 ((md+m0:Nat):Int)),(20,.int .i64 (s0:Int)),(21,.int .i64 (r0:Int))],[own e0 z0 a l.length c (l.flatMap en)])) (λ_=>?_) (λK fin=>?_)
   ·dsimp only;refine xS ?_;rw[show((md+m0:Nat):Int) - 1=((md+m0 - 1:Nat):Int)from by omega];refine nh (ι:=Unit) (λ_=>([(0,.slice a l.length c),(1,.int .i64 a0),(2,.int .i64 m0),(3,.int .i64 b0),(4,.func (.func fc) #[] #[]),(18,.int .i64 (md:Int)),(19,.int .i64 ((md+m0:Nat):Int)),(20,.int .i64 (I:Int))],[own e0 z0 a l.length c (l.flatMap en)])) (λ_=>?_) (λK fin=>?_)
    ·dsimp only;refine xS ?_;have e8:=r5 I hI.1 hI.2;rw[show((md+m0:Nat):Int) - I=((md+m0 - I:Nat):Int)from by omega];generalize md+m0 - I=E at*;generalize Fl:(if I<m0/\m0<E then pO m0 (E - I) (m0 - I) (E - m0) l else l)=l1 at*;generalize pz:(if a0<I/\I<md then oV lt f l1 a0 I md else l1)=l2 at*;have n1:l1.length=l.length:=by
      rw[<-Fl];split
      ·exact(Aj _ _ _ _ _).length_eq
      ·rfl
     have n2:l2.length=l.length:=by
      rw[<-pz];split
      ·rw[(qb _ _ _ _ _ _).length_eq];exact n1
      ·exact n1
     refine jI (ι:=Unit) (λ_=>([(0,.slice a l.length c),(1,.int .i64 a0),(2,.int .i64 m0),(3,.int .i64 b0),(4,.func (.func fc) #[] #[]),(18,.int .i64 (md:Int)),(19,.int .i64 ((md+m0:Nat):Int)),(20,.int .i64 (I:Int)),(24,.int .i64 (E:Int))],[own e0 z0 a l.length c (l1.flatMap en)])) (λ_=>?_) (λK fin=>?_)
     ·dsimp only;refine xS ?_;refine jI (ι:=Unit) (λ_=>([(0,.slice a l.length c),(1,.int .i64 a0),(2,.int .i64 m0),(3,.int .i64 b0),(4,.func (.func fc) #[] #[]),(18,.int .i64 (md:Int)),(19,.int .i64 ((md+m0:Nat):Int)),(20,.int .i64 (I:Int)),(24,.int .i64 (E:Int))],[own e0 z0 a l.length c (l2.flatMap en)])) (λ_=>?_) (λK fin=>?_)
      ·dsimp only;refine xT 209 ?_ ?_<;>intro k3
       ·have k3:md<E:=by simpa using k3
        refine xB ?_ ?_<;>intro k4
        ·have k4:E<b0:=by simpa using k4
         rw[if_pos ⟨k3,k4⟩]at e1;subst e1;refine xS ?_;rw[<-n2];refine xH (IH a c md E b0 _ _ _ U U U l2 k3 k4 av av av) ?_;rw[n2];exact xF
        ·have k4:¬E<b0:=by simpa using k4
         rw[if_neg (λhh=>k4 hh.2)]at e1;subst e1;exact xF
       ·have k3:¬md<E:=by simpa using k3
        rw[if_neg (λhh=>k3 hh.1)]at e1;subst e1;exact xF
      ·clear e1;refine xT 195 ?_ ?_<;>intro k1
       ·have k1:a0<I:=by simpa using k1
        refine xB ?_ ?_<;>intro k2
        ·have k2:I<md:=by simpa using k2
         rw[if_pos ⟨k1,k2⟩]at pz;subst pz;refine xS ?_;rw[<-n1];refine xH (IH a c a0 I md _ _ _ U U U l1 k1 k2 av av av) ?_;rw[n1];exact aB5
        ·have k2:¬I<md:=by simpa using k2
         rw[if_neg (λhh=>k2 hh.2)]at pz;subst pz;exact aB5
       ·have k1:¬a0<I:=by simpa using k1
        rw[if_neg (λhh=>k1 hh.1)]at pz;subst pz;exact aB5
     ·clear e1 pz;refine xT 181 ?_ ?_<;>intro k1
      ·have k1:I<m0:=by simpa using k1
       refine xB ?_ ?_<;>intro k2
       ·have k2:m0<E:=by simpa using k2
        rw[if_pos ⟨k1,k2⟩]at Fl;subst Fl;refine xE (NO G _ a c I m0 E _ _ _ U U U l k1 k2 av av) ?_;exact X.W (fin ())
       ·have k2:¬m0<E:=by simpa using k2
        rw[if_neg (λhh=>k2 hh.2)]at Fl;subst Fl;exact aB5
      ·have k1:¬I<m0:=by simpa using k1
       rw[if_neg (λhh=>k1 hh.1)]at Fl;subst Fl;exact aB5
    ·refine X.loop (ι:={q:Nat×Nat×Nat // q.2.1<=q.2.2/\s0<=q.2.1/\q.2.2<=r0/\q.2.2 - q.2.1<=q.1/\Fk p q.1 q.2.1 q.2.2=I})
      (λq=>([(0,.slice a l.length c),(1,.int .i64 a0),(2,.int .i64 m0),(3,.int .i64 b0),(4,.func (.func fc) #[] #[]),(18,.int .i64 (md:Int)),(19,.int .i64 ((md+m0:Nat):Int)),(22,.int .i64 ((md+m0 - 1:Nat):Int)),(20,.int .i64 (q.1.2.1:Int)),(21,.int .i64 (q.1.2.2:Int))],[own e0 z0 a l.length c (l.flatMap en)])) (λq=>q.1.2.2 - q.1.2.1) ⟨(r0 - s0,s0,r0),by dsimp only;omega,ar _,ar _,ar _,hIe⟩ (Sub.of U) ay ?_
     rintro⟨⟨f2,i,j⟩,g1,g2,g3,g4,g5⟩ ih;dsimp only at g1 g2 g3 g4 g5 ⊢;refine xB ?_ ?_<;>intro h4
     ·have h4:i<j:=by simpa using h4
      obtain⟨f3,rfl⟩:∃k,f2=k+1:=⟨f2 - 1,by omega⟩;refine xS ?_;rw[Ii i j av];have hx3:=r5 ((i+j) / 2) av av;have mD:(i+j) / 2<l.length:=av;have jz:md+m0 - 1 - (i+j) / 2<l.length:=av;refine gV a av λg hg=>?_;subst hg;refine fM (uC [0,1,2,3,4,5,6,7,8,9,10,12,13]) [own e0 z0 (some ⟨g,0,none⟩) l.length c (l.flatMap en)] U ?_;apply cW [0,1,2,3,4,5,6,7,8,9,10] U U U
      ·intro pp B4;refine xS ?_;refine du (j:=md+m0 - 1 - (i+j) / 2) U U U U av av (xS ?_);refine gN (bo:=en) (l:=l) (md+m0 - 1 - (i+j) / 2) U U U U (λ_=>rfl) (aQ _) jz (xS ?_);exact bB3
      ·rfl
      ·rfl
      refine xS ?_;refine ng (fst:=[]) (us:=[_,_]) (cap:=[]) hG (hc l[md+m0 - 1 - (i+j) / 2] l[(i+j) / 2]) U U U U  ?_;refine xB ?_ ?_<;>intro h5
      ·have h6:p ((i+j) / 2)=true:=by rw[tK];rw[Cq lt jz mD,W1];exact h5
       rw[bj4 h4 h6]at g5;refine xS ?_;refine X.less (ih ⟨(f3,(i+j) / 2+1,j),by dsimp only;omega,by dsimp only;omega,g3,by dsimp only;omega,g5⟩ gm) (Sub.cons U (Sub.cons U (Sub.cons U (Sub.cons U (Sub.cons U (Sub.cons U (Sub.cons U (Sub.cons U (Sub.cons (eN U nH) (Sub.of U)))))))))) ay
      ·exact au3
     exact Xh
   ·refine xB ?_ ?_<;>intro h9
    ·have h9:md<m0:=by simpa using h9
     rw[if_pos h9]at hS hR;have Ml:=hmd2 h9;refine xS ?_;refine X.less (fin ()) (s9_ U U U U U U (eN U nH) (eN U (by rw[hS];simp;omega)) (eN U (by rw[hR]))) ay
    ·have h9:¬md<m0:=by simpa using h9
     rw[if_neg h9]at hS hR;refine xS ?_;refine X.less (fin ()) (s9_ U U U U U U (eN U nH) (eN U (by rw[hS])) (eN U (by rw[hR]))) ay
):p:=h
theorem W5(h:p:=by
 refine jr U λb β hb hG=>?_;have I1:=NP G cf fc hc;have I2:=NQ G cf fc hc;generalize tV:(λx y=>decide (cf x y<0))=lt at*;have e1:kf lt l=Uh lt l.length l.length 20 (R6 lt l.length l.length 0 l):=U;generalize kf lt l=res at*;generalize Fl:R6 lt l.length l.length 0 l=l1 at*;have n1:l1.length=l.length:=by rw[<-Fl];exact(DA _ _ _ _ _).length_eq
 refine xS ?_;refine nh (ι:={q:Nat×List T // q.1<=l.length/\q.2.length=l.length/\Ag lt q.2 q.1 l.length=l1}) (λq=>([(0,.slice a l.length c),(1,.int .i64 l.length),(2,.func (.func fc) #[] #[]),(6,.int .i64 20),(7,.int .i64 (q.1.1:Int))],[own e0 z0 a l.length c (q.1.2.flatMap en)])) (λq=>?_) (λK fin=>?_)
 ·obtain⟨⟨a0,q⟩,g1,g2,g3⟩:=q;dsimp only at g1 g2 g3 ⊢;refine xS ?_;rw[<-g2];refine xI (I1 a c a0 q.length _ _ U U q (ar _) av av) ?_;rw[g2,g3];refine xD ?_;refine X.loop (ι:={q:Nat×Nat×List T // 0<q.2.1/\q.2.1<=2*l.length+40/\l.length<=q.1+q.2.1/\q.2.2.length=l.length/\Uh lt l.length q.1 q.2.1 q.2.2=res}) (λq=>([(0,.slice a l.length c),(1,.int .i64 l.length),(2,.func (.func fc) #[] #[]),(6,.int .i64 (q.1.2.1:Int))],[own e0 z0 a l.length c (q.1.2.2.flatMap en)])) (λq=>q.1.1) ⟨(l.length,20,l1),by dsimp only;omega,by dsimp only;omega,by dsimp only;omega,n1,e1.symm⟩ (Sub.of U) ay ?_;clear e1 Fl n1 g1 g2 g3;rintro⟨⟨f,bs,q⟩,g1,g2,g3,g4,g5⟩ ih;dsimp only at g1 g2 g3 g4 g5 ⊢;refine xB ?_ ?_<;>intro h
  ·have h:bs<l.length:=by simpa using h
   obtain⟨f,rfl⟩:∃k,f=k+1:=⟨f - 1,by omega⟩;have e2:Uh lt l.length (f+1) bs q=if bs<l.length then Uh lt l.length f (bs*2) (stM lt l.length bs (l.length+1) 0 q)else q:=U;rw[if_pos h]at e2;rw[e2]at g5;generalize Ua:stM lt l.length bs (l.length+1) 0 q=q1 at*;have n2:q1.length=l.length:=by rw[<-Ua,(DB _ _ _ _ _ _).length_eq];exact g4
   refine xS ?_;refine nh (ι:={z:Nat×List T // z.1<=l.length/\z.2.length=l.length/\(if z.1+bs<l.length then oV lt l.length z.2 z.1 (z.1+bs) l.length else z.2)=q1}) (λz=>([(0,.slice a l.length c),(1,.int .i64 l.length),(2,.func (.func fc) #[] #[]),(6,.int .i64 (bs:Int)),(7,.int .i64 (z.1.1:Int))],[own e0 z0 a l.length c (z.1.2.flatMap en)])) (λz=>?_) (λK2 J0=>?_)
   ·obtain⟨⟨a0,z⟩,k1,k2,k3⟩:=z;dsimp only at k1 k2 k3 ⊢;refine xS ?_;rw[show(a0:Int)+bs=((a0+bs:Nat):Int)from by omega];refine jI (ι:=Unit) (λ_=>([(0,.slice a l.length c),(1,.int .i64 l.length),(2,.func (.func fc) #[] #[]),(6,.int .i64 (bs:Int))],[own e0 z0 a l.length c (q1.flatMap en)])) (λ_=>?_) (λK fin3=>?_)
    ·dsimp only;refine xS ?_;refine X.less (ih ⟨(f,bs*2,q1),by dsimp only;omega,by dsimp only;omega,by dsimp only;omega,n2,g5⟩ gm) (EL U U U (eN U nH)) ay
    ·refine xB ?_ ?_<;>intro h4
     ·have h4:a0+bs<l.length:=by simp at h4;omega
      rw[if_pos h4]at k3;subst k3;refine xS ?_;rw[<-k2];refine xH (I2 z.length a c a0 (a0+bs) z.length _ _ _ U U U z av av (ar _) av av) ?_;rw[k2];refine xS ?_;exact X.W (fin3 ())
     ·have h4:¬a0+bs<l.length:=by simp at h4;omega
      rw[if_neg h4]at k3;subst k3;refine xS ?_;exact X.W (fin3 ())
   ·refine X.loop (ι:={z:Nat×Nat×List T // z.2.1<=l.length/\l.length<z.1+z.2.1/\z.2.2.length=l.length/\stM lt l.length bs z.1 z.2.1 z.2.2=q1}) (λz=>([(0,.slice a l.length c),(1,.int .i64 l.length),(2,.func (.func fc) #[] #[]),(6,.int .i64 (bs:Int)),(7,.int .i64 (z.1.2.1:Int)),(8,.int .i64 ((z.1.2.1+2*bs:Nat):Int))],[own e0 z0 a l.length c (z.1.2.2.flatMap en)])) (λz=>z.1.1) ⟨(l.length+1,0,q),al _,by dsimp only;omega,g4,Ua⟩ (YX U U U U U (eN U nH)) ay ?_;rintro⟨⟨f2,a0,z⟩,k1,k2,k3,k4⟩ pG;dsimp only at k1 k2 k3 k4 ⊢;obtain⟨f2,rfl⟩:∃k,f2=k+1:=⟨f2 - 1,by omega⟩;have e3:stM lt l.length bs (f2+1) a0 z=if a0+2*bs<=l.length then stM lt l.length bs f2 (a0+2*bs) (oV lt l.length z a0 (a0+bs) (a0+2*bs))else if a0+bs<l.length then oV lt l.length z a0 (a0+bs) l.length else z:=U;refine xB ?_ ?_<;>intro h4
    ·have h4:a0+2*bs<=l.length:=by simp at h4;omega
     rw[if_pos h4]at e3;rw[e3]at k4;refine xS ?_;rw[show(a0:Int)+bs=((a0+bs:Nat):Int)from by omega];have h5:TR ab G f3 #[.slice a l.length c,.int .i64 (a0:Int),.int .i64 ((a0+bs:Nat):Int),.int .i64 ((a0+2*bs:Nat):Int),.func (.func fc) #[] #[]] [own e0 z0 a l.length c (z.flatMap en)] (cb λv B=>v=.tuple #[]/\B=[own e0 z0 a l.length c ((oV lt l.length z a0 (a0+bs) (a0+2*bs)).flatMap en)]):=by
      have h6:=I2 l.length a c a0 (a0+bs) (a0+2*bs) _ _ _ U U U z av av av av av;rw[k3]at h6;exact h6
     refine xE h5 ?_;refine X.less (pG ⟨(f2,a0+2*bs,oV lt l.length z a0 (a0+bs) (a0+2*bs)),h4,by dsimp only;omega,by rw[(qb _ _ _ _ _ _).length_eq];exact k3,k4⟩ gm) (YX U U U U U (eN U nH)) ay
    ·have h4:¬a0+2*bs<=l.length:=by simp at h4;omega
     rw[if_neg h4]at e3;refine xS ?_;exact X.W (J0 ⟨(a0,z),k1,k3,by rw[<-k4,e3]⟩)
  ·have h:¬bs<l.length:=by simpa using h
   have e2:Uh lt l.length f bs q=q:=by
    cases f with
    |zero=>rfl
    |succ f=>show(if bs<l.length then _ else _)=_;rw[if_neg h]
   rw[e2]at g5;subst g5;exact xF
 ·refine X.loop (ι:={q:Nat×Nat×List T // q.2.1<=l.length/\l.length<=q.1+q.2.1/\q.2.2.length=l.length/\R6 lt l.length q.1 q.2.1 q.2.2=l1}) (λq=>([(0,.slice a l.length c),(1,.int .i64 l.length),(2,.func (.func fc) #[] #[]),(6,.int .i64 20),(7,.int .i64 (q.1.2.1:Int)),(8,.int .i64 ((q.1.2.1+20:Nat):Int))],[own e0 z0 a l.length c (q.1.2.2.flatMap en)])) (λq=>q.1.1) ⟨(l.length,0,l),al _,ar _,U,Fl⟩ (Sub.of U) ay ?_;clear e1 Fl n1;rintro⟨⟨f,a0,q⟩,g1,g2,g3,g4⟩ ih;dsimp only at g1 g2 g3 g4 ⊢;refine xB ?_ ?_<;>intro h
  ·have h:a0+20<=l.length:=by simp at h;omega
   obtain⟨f,rfl⟩:∃k,f=k+1:=⟨f - 1,by omega⟩;have e2:R6 lt l.length (f+1) a0 q=if a0+20<=l.length then R6 lt l.length f (a0+20) (Ag lt q a0 (a0+20))else Ag lt q a0 l.length:=U;rw[if_pos h]at e2;rw[e2]at g4;refine xS ?_;rw[<-g3];refine xI (I1 a c a0 (a0+20) _ _ U U q av av av) ?_;rw[g3];refine xD ?_;refine X.less (ih ⟨(f,a0+20,Ag lt q a0 (a0+20)),h,by dsimp only;omega,by rw[(vB _ _ _ _).length_eq];exact g3,g4⟩ gm) (YX U U U U U (eN U nH)) ay
  ·have h:¬a0+20<=l.length:=by simp at h;omega
   have e2:R6 lt l.length f a0 q=Ag lt q a0 l.length:=by
    cases f with
    |zero=>rfl
    |succ f=>show(if a0+20<=l.length then _ else _)=_;rw[if_neg h]
   rw[e2]at g4;refine xS ?_;exact X.W (fin ⟨(a0,q),g1,g3,g4⟩)
):p:=h
theorem DK(h:p:=by
 subst hn;refine aW U λb β hb hG=>?_;refine xE (NR G cf fc hc a c l hs) ?_;exact xF
):p:=h
end
end
section
variable(u:UInt64)(l:List bn)(G:bZ)(a:Option Addr)(n c:Nat)(q:List (WB bn))(nm:Bs)(i:Nat)
namespace SN
abbrev T:=WB B0
abbrev en:T->List Value:=lh
abbrev e0:Nat:=262
abbrev z0:Nat:=3
abbrev f5:Nat:=500
abbrev f4:Nat:=484
abbrev f2:Nat:=441
abbrev f3:Nat:=442
abbrev f1:Nat:=364
abbrev f0:Nat:=261
theorem DJ:WS T en 262 3 500:=by
 intro G cmp a c a0 b0 cn A B C hA hB hC l ha Fg hs
 exact WX
theorem NO:WT T en 262 3 484:=by
 intro G cmp a c a0 m0 b0 A M B hA hM hB l h1 h2 Fg hs
 exact WY
theorem NP:WU T en 262 3 441:=by
 intro G cf fc _ hc a c a0 b0 A B hA hB l Fg ha0 hs
 exact WZ
theorem NQ:WV T en 262 3 442:=by
 intro G cf fc _ hc
 intro f
 induction f with
 |zero=>intro _ _ a0 m0 b0 _ _ _ _ _ _ l h1 h2 _ hf _;exact absurd hf (by omega)
 |succ f IH=>
  intro a c a0 m0 b0 A M B hA hM hB l h1 h2 Fg hf hs
  exact W3
theorem NR:WW T en 262 3 364:=by
 intro G cf fc _ hc a c l hs
 exact W5
theorem GJ:DI T en 262 3 261:=by
 intro G cf fc _ hc a n c l hn hs
 exact DK
end SN
instance aZ1(s:Bs):FJ ab 260 [ao s] [] (.bool (dy s)):=⟨λG=>by
 refine cg U λb β hb hG=>?_;refine xT 6 ?_ ?_<;>intro h
 ·exact aA3
 ·have h1:s=[]:=by simp_all
  subst h1;refine xS ?_;exact bO hb (.tmps U) ⟨U,U⟩⟩
theorem W6(b3:Nat)(nm:Bs)(x:WB bn):TR ab G 271 #[.agg (bG x).toArray,au b3] [cV [bx b3 9 [ao nm]]] (cb λv B=>v=.bool (x.1.name==nm)/\B=[cV [bx b3 9 [ao nm]]]):=by
 refine aW U λb β hb hG=>?_;refine kZ [bx b3 9 [ao nm]] (xD ?_);refine xP ?_;intro b2;refine jc [bx b3 9 [ao nm]] ?_;exact xR
def iH(l:List bn)(nm:Bs):Int:=cy (λf=>f.name==nm) 0 l
theorem Ak{α γ:Type}(f:α->γ)(p:γ->Bool):∀(i:Nat) (l:List α),cy (λx=>p (f x)) i l=cy p i (l.map f)
 |_,[]=>rfl
 |i,x::r=>by
  unfold cy;rw[aK];dsimp only;rw[Ak f p (i+1) r]
theorem vD(hn:q.length=n)(hs:n<=1099511627776):
 TR ab G 173 #[.slice a n c,ao nm] [bV (bp bG) 2 a q] (cT (aX (iH (q.map (·.1)) nm))):=by
 refine aW U λb β hb hG=>?_
 refine xP ?_
 intro b3
 refine jc [bx b3 9 [ao nm]] ?_
 refine xE (WQ G 271 [au b3] [bx b3 9 [ao nm]] (λx=>x.1.name==nm) a n c q hn hs (λx _=>W6 G b3 nm x)) ?_
 refine bO hb (.tmps U) ⟨?_,U⟩
 grind [lx,iH,Ak]
def aZ(l:List bn):Nat:=(l.map λf=>f.data.length).sum
theorem uO(f:bn):aZ (l++[f])=aZ l+f.data.length:=KD
theorem oW(h:i<l.length):aZ (l.take (i+1))=aZ (l.take i)+l[i].data.length:=by
 grind [aY,uO]
theorem rY:aZ (l.take i)<=aZ l:=by
 grind [aZ,cP]
theorem qy(hn:q.length=n)(hs:n<=1099511627776)(hu:aZ (q.map (·.1))<=1000000000000000000):
 TR ab G 166 #[.slice a n c] [bV (bp bG) 2 a q] (cT (aX (aZ (q.map (·.1))))):=by
 refine cg U λb β hb hG=>xS ?_
 refine eT [6] [] (ι:={i:Nat // i<=n}) (λi q_=>(3,aX (aZ ((q.map (·.1)).take i.1)))::(7,aX n)::(8,aX i.1)::q_) (λi q_=>q_) (λi=>n - i.1) ⟨0,al _⟩ ?_
 rintro⟨i,hi⟩ ih
 dsimp only
 refine xB ?_ ?_<;>intro h
 ·have hi:i<q.length:=by simp at h;omega
  have h1:=oW (q.map (·.1)) i Ij;have h2:=rY (q.map (·.1)) (i+1);simp only[ft]at h1;refine xS ?_;refine cH U U U U U hi hn λbl o=>?_;generalize q[i]=x at*;refine xS ?_;refine dF U U U U  ?_;refine xA ?_;intro b5;refine X.less (ih ⟨i+1,by omega⟩ gm) (EL (eN U (by simp only[aX];congr 1;omega)) U U (eN U pH)) ay
 ·have fw:i=n:=by simp at h;omega
  subst fw;rw[aD bB];exact xR
def lI(l:List bn):Bool:=l.all (λf=>dy f.name)&&decide (l.map (·.name)).Nodup&&decide (aZ l<=4194304)
theorem uP(p:bn->Bool):∀(l:List bn) (k i:Nat) (_:i<l.length),cy p k l=((k+i:Nat):Int)↔p l[i]=true/\∀j (_:j<i),p l[j]=false
 |x::r,k,i,h=>by
  unfold cy;cases i with
  |zero=>
   cases hp:p x
   ·simp only[bY,if_false];constructor
    ·intro hh;have:∀(r:List bn) (k:Nat),cy p (k+1) r≠(k:Int):=by
      intro r;induction r with
      |nil=>intro k;unfold cy;omega
      |cons y s ih=>
       intro k;unfold cy;split
       ·omega
       ·intro h2;have h3:∀(s:List bn) (m:Nat),cy p m s= -1\/(m:Int)<=cy p m s:=by
         intro s;induction s with
         |nil=>intro m;left;rfl
         |cons z u pG=>
          intro m;unfold cy;split
          ·right;omega
          ·rcases pG (m+1)with h|h
           ·left;exact h
           ·right;omega
        rcases h3 s (k+1+1)with h|h<;>omega
     exact absurd hh (this r k)
    ·rintro⟨h1,_⟩;simp[hp]at h1
   ·simp[hp]
  |succ i=>
   have ih:=uP p r (k+1) i BU;cases hp:p x
   ·simp only[bY,if_false];rw[show k+(i+1)=k+1+i from by omega,ih];constructor
    ·rintro⟨h1,h2⟩;refine⟨by simpa using h1,λj hj=>?_⟩;cases j with
     |zero=>simpa using hp
     |succ j=>simpa using h2 j av
    ·rintro⟨h1,h2⟩;exact⟨by simpa using h1,λj hj=>by simpa using h2 (j+1) av⟩
   ·simp only[if_true];constructor
    ·intro hh;omega
    ·rintro⟨_,h2⟩;have:=h2 0 av;simp[hp]at this
theorem R8(h:(l.map (·.name)).Nodup)(i:Nat)(hi:i<l.length):iH l l[i].name=(i:Int):=by
 grind [uP,List.pairwise_iff_getElem,iH]
theorem R9(h:∀i (hi:i<l.length),iH l l[i].name=(i:Int)):(l.map (·.name)).Nodup:=by
 grind [List.pairwise_iff_getElem]
theorem Qa(hn:q.length=n)(hs:n<=1099511627776)(hu:aZ (q.map (·.1))<=1000000000000):
 TR ab G 165 #[.slice a n c] [bV (bp bG) 2 a q] (cT (.bool (lI (q.map (·.1))))):=by
 refine cg U λb β hb hG=>?_
 have pi:=λnm=>vD G a n c q nm hn hs
 have pu:=qy G a n c q hn hs av
 have Z4:(q.map (·.1)).length=n:=Rb
 have hxe0:∀i (h:i<q.length),(q.map (·.1))[i]?=some q[i].1:=bE
 generalize q.map (·.1)=Q at*
 have hm:lI Q=(Q.all (λf=>dy f.name)&&decide (Q.map (·.name)).Nodup&&decide (aZ Q<=4194304)):=U
 generalize lI Q=res at*
 refine xS ?_
 refine eT [0,5] [] (ι:={i:Nat // i<=n/\∀j (hj:j<Q.length),j<i->dy Q[j].name=true/\iH Q Q[j].name=(j:Int)}) (λi q_=>(6,aX n)::(7,aX i.1)::q_) (λi q_=>q_) (λi=>n - i.1) ⟨0,al _,λj _ h=>by omega⟩ ?_
 rintro⟨i,hi,hE⟩ ih
 dsimp only
 refine xB ?_ ?_<;>intro h
 ·have hi:i<q.length:=by grind
  have hxe:Q[i]' av=q[i].1:=bE;refine xS ?_;refine cH U U U U U hi hn λbl o=>?_;generalize q[i]=x at*;refine xS ?_;refine dF U U U U  ?_;refine xA ?_;intro b4;refine xT 16 ?_ ?_<;>intro h1
  ·have h1:dy x.1.name=false:=by grind
   have:res=false:=by
    grind
   subst this;exact xR
  ·have h1:dy x.1.name=true:=by grind
   refine xJ (pi x.1.name) ?_;refine xB ?_ ?_<;>intro h2
   ·have h2:¬iH Q x.1.name=(i:Int):=by grind
    have:res=false:=by
     grind [R8]
    subst this;exact xR
   ·have h2:iH Q x.1.name=(i:Int):=by grind
    refine xS ?_
    refine X.W (ih ⟨i+1,by omega,λj hj U4=>?_⟩ gm)
    grind
 ·have fw:i=n:=by grind
  subst fw;have jd:(Q.map (·.name)).Nodup:=by grind [R9]
  have ub:(Q.all λf=>dy f.name)=true:=by
   grind [List.mem_iff_getElem]
  rw[ub,decide_eq_true jd]at hm;subst hm;refine xJ (pu) ?_;exact bO hb (.tmps U) ⟨by simp only[lx];congr 1;simp;omega,U⟩
theorem Sa(hn:q.length=n)(hs:n<=1099511627776):
 TR ab G 369 #[.slice a n c] [bV (bp bG) 2 a q] (cb (Rl (λk:Bs=>[ao k]) 9 1 ((q.map (·.1)).map (·.name)))):=by
 refine cg U λb β hb hG=>?_
 generalize hL:(q.map (·.1)).map (·.name)=L
 have hLl:L.length=n:=bE
 have hLx:∀i (h:i<q.length),L[i]' av=q[i].1.name:=bE
 refine xS ?_
 refine X.cd (ej 9 1 _) ?_
 refine eT [6] [0] (ι:={z:Nat×Option Addr×Nat // z.1<=n}) (λz q_=>(3,.slice z.1.2.1 (L.take z.1.1).length z.1.2.2)::(7,aX n)::(8,aX z.1.1)::q_) (λz q_=>own 9 1 z.1.2.1 (L.take z.1.1).length z.1.2.2 ((L.take z.1.1).flatMap λk=>[ao k])::q_) (λz=>n - z.1.1) ⟨(0,none,0),al _⟩ ?_
 rintro⟨⟨i,a3,c3⟩,hi⟩ ih
 dsimp only at hi ⊢
 have hl:(L.take i).length<=n:=bE
 refine xB ?_ ?_<;>intro h
 ·have hi:i<q.length:=by grind
  have j6:L.take (i+1)=L.take i++[q[i].1.name]:=NS;generalize hr:L.take i=r at*;refine xS ?_;refine cH U U U U U hi hn λbl o=>?_;generalize q[i]=x at*;refine xS ?_;refine dF U U U U  ?_;refine xA ?_;intro b5;refine xZ ?_;intro b7;refine eD (x.1.name) U U U U av U iA iA iA iA iA av λa8 c8=>xS ?_;refine X.less (ih ⟨(i+1,a8,c8),by omega⟩ bE) ?_ ?_
  ·dsimp only;rw[j6];exact(EL U U U (eN U pH))
  ·exact bB4
 ·have fw:i=n:=by grind
  subst fw;rw[aD av];exact aF5
theorem Sb(hn:q.length=n)(hs:n<=1000000000000)(h0:a=none->n=0/\c=0):
 TR ab G 367 #[.slice a n c] [bV (bp bG) 2 a q] (cb (Rl bG 70 2 q)):=by
 refine cg U λb β hb hG=>?_
 refine xB ?_ ?_<;>intro h
 ·obtain rfl:a=none:=by simp_all
  obtain⟨rfl,rfl⟩:=h0 U;obtain rfl:q=[]:=List.length_eq_zero_iff.1 hn;refine xS ?_;exact X.ret hb (.tmps U) ⟨_,⟨none,0,U,U⟩,(ej 70 2 _).trans (show aN [own 70 2 none 0 0 [],bV (bp bG) 2 none []] [own 70 2 none 0 0 []]from ay)⟩
 ·refine xS ?_;refine Mw U U λbl=>xS ?_;refine MC (bo:=bG) U U U U hn U (λ_=>rfl) (λ_=>rfl) U av λa2 c2=>?_;subst hn;refine xS ?_;rw[aQ];exact X.ret hb (.tmps U) ⟨_,⟨a2,c2,U,U⟩,by rw[ai];exact ay⟩
theorem aE9(g c sz:Nat):ph (some ⟨g,0,none⟩) c 0 sz=some ⟨g,0,none⟩:=by
 grind [ph,addr_add]
theorem Fq.one:∀v∈q.flatMap bG,v.oneCell'=true:=by
 intro v hv;simp only[List.mem_flatMap,bK,List.not_mem_nil,or_false]at hv;obtain⟨x,_,rfl|rfl⟩:=hv<;>rfl
theorem W7(h:i<q.length):(q.flatMap bG).take (i*2)++(q.flatMap bG).drop ((i+1)*2)=(q.eraseIdx i).flatMap bG:=by
 rw[yL (sz:=2) (λ_=>rfl),Co (sz:=2) (λ_=>rfl),<-List.flatMap_append,List.eraseIdx_eq_take_drop_succ]
theorem Qb(I J:Int)(hI:I=i)(hJ:J=(i+1:Nat))(q:List (WB bn))(hn:q.length=n)(hi:i<n)(hs:n<=1000000000000):
 TR ab G 445 #[.slice a n c,.int .i64 I,.int .i64 J] [own 70 2 a n c (q.flatMap bG)] (cb (Rl bG 70 2 (q.eraseIdx i))):=by
 subst hI hJ
 refine jr U λb β hb hG=>?_
 refine gV a av λg hg=>?_
 subst hg
 refine ni (some ⟨g,0,none⟩) λ_ oM=>?_
 have Gk:(q.eraseIdx i).length=i+(n - (i+1)):=bE
 refine xS ?_
 refine bc5 U U U U U U U U U av av oM λv=>xS ?_
 refine Cd (by rw[show(((i:Int)==((i+1:Nat):Int))=false)from by simp;omega];rfl) (xS ?_)
 refine eR 6 [] ?_
 apply cW [0,1,2,3,4,5] U U U
 ·intro p hp;refine xS ?_;refine CJ (l:=0) (h:=i) U U U Bd.no (Bd.at U U) av av ?_;rw[aE9];refine xS ?_;refine CJ (l:=i+1) (h:=n) U U U (Bd.at U U) Bd.no av av (xS ?_);exact hp
 ·rfl
 ·rfl
 refine xS ?_
 refine Uv (i:=i) (j:=i+1) U U U U av av (Fq.one q) ?_
 rw[W7 q i av,<-Gk]
 refine xS ?_
 have Vr:(q.eraseIdx i).length+1=n:=av
 generalize q.eraseIdx i=r at*
 refine CJ (l:=r.length) (h:=n) U U U (Bd.at U U) (Bd.at U U) av av (xS ?_)
 refine Us U U av U de (xS ?_)
 exact bO hb (.tmps U) ⟨_,c,U,U⟩
instance:TZ ab 484 (bI 65 (.int .u8 0)):=⟨by kernel_rfl⟩
instance bs5:FJ ab 359 [.int .i64 16] [] (.bool true):=⟨λG=>by
 refine cg U λb β hb hG=>xS ?_;exact bO hb (.tmps U) ⟨by kernel_rfl,U⟩⟩
theorem bk0(x:Nat)(h:x<18446744073709551616):cN.wrap ((BitVec.ofInt cN.bits (x:Int)&&&BitVec.ofInt cN.bits 15).toNat:Int)=((x%16:Nat):Int):=by
 have h1:(BitVec.ofInt cN.bits (x:Int)&&&BitVec.ofInt cN.bits 15).toNat=x%16:=by
  show(BitVec.ofInt 64 (x:Int)&&&BitVec.ofInt 64 15).toNat=_;rw[BitVec.toNat_and,BitVec.ofInt_natCast,BitVec.toNat_ofNat,Nat.mod_eq_of_lt h];exact Nat.and_two_pow_sub_one_eq_mod x 4
 grind [wrap_u64]
theorem Qc(h:n<=64)(DL:List Value):bI (65 - n) (eL .u8 0)++DL=bI (64 - n) (eL .u8 0)++(.int .u8 0)::DL:=by
 rw[show 65 - n=(64 - n)+1 from by omega,List.replicate_succ',bT];rfl
theorem bk1(m:Nat):((m:Int).fdiv (2^(min (Int.toNat 4) cN.bits)))=((m / 16:Nat):Int):=vr .u64 m 4 de
theorem NT:TR ab GG 254 #[.slice none 0 0,.int .u64 u.toNat,.int .i64 16,.bool false,.bool false] [] (cT (.tuple #[.slice none 0 0,ao (If u.toNat)])):=by
 refine TR.go (us:=[_,_,_,_,_]) (aI U) λb β hb hG=>?_;refine xA ?_;intro Bl;refine xJ bi6 ?_;refine X.loop (ι:={p:Nat×Nat×Bs // p.2.1+p.2.2.length=17/\1<=p.2.1/\p.1<16^p.2.1/\p.1<18446744073709551616/\If u.toNat=Ie p.2.1 p.1++p.2.2}) (λp=>([(1,.int .u64 p.1.1),(3,.bool false),(4,.bool false),(12,au Bl),(13,.int .i64 (65 - p.1.2.2.length:Nat)),(14,.int .u64 4),(15,.int .u64 16),(16,.int .u64 15),(10,.slice none 0 0)],
  [bx Bl 484 (bI (65 - p.1.2.2.length) (.int .u8 0)++p.1.2.2.map fO)])) (λp=>p.1.2.1) ⟨(u.toNat,17,[]),U,(by decide:1<=17),Nat.lt_of_lt_of_le u.toNat_lt (show 2^64<=16^17 by decide),u.toNat_lt,by simp[If]⟩ (Sub.cons U (Sub.cons U (Sub.cons U (Sub.cons U (Sub.cons U (Sub.cons (eN U cA) (Sub.cons (eN U cA) (Sub.cons (eN U cA) (Sub.of U))))))))) (by simp only[ie,ah];exact aN.refl _) ?_
 rintro⟨⟨x,f,DL⟩,hf,hf1,hx,hx64,hE⟩ ih;dsimp only at hf hf1 hx hx64 hE ih ⊢;refine xB ?_ ?_<;>intro h
 ·have h:16<=x:=by grind
  refine xS ?_
  rw[bk0 x hx64]
  have sI:DL.length<=15:=by
   grind
  obtain⟨f,rfl⟩:∃q,f=q+1:=⟨f - 1,by omega⟩
  rw[Ie,if_neg av]at hE
  refine kz (l:=d36) (j:=x%16) U U U U U (by have:d36.length=36:=U;omega) ?_
  rw[PZ (x%16) av]
  refine yb (j:=64 - DL.length) U U U U av av ?_
  rw[Qc _ av]
  refine xS ?_
  refine X.st (JA:=bI (64 - DL.length) (.int .u8 0)++fO (lV (x%16))::DL.map fO) U U U U U U ?_ ?_
  ·grind [Kj,fO,lV,List.length_replicate]
  refine xS ?_
  refine X.less (ih ⟨(x / 16,f,lV (x%16)::DL),by grind,by grind,by grind,by omega,by rw[hE];simp⟩ bE) (Sub.cons (eN U (by rw[bk1])) (Sub.cons U (Sub.cons U (Sub.cons U (Sub.cons (eN U bE) (Sub.of U)))))) ?_
  dsimp only
  rw[aK,ax,show 65 - (DL.length+1)=64 - DL.length from by omega]
  exact ay
 ·have h:x<16:=by grind
  obtain⟨f,rfl⟩:∃q,f=q+1:=⟨f - 1,by omega⟩
  rw[Ie,if_pos h]at hE
  refine xS ?_
  refine kz (l:=d36) (j:=x) U U U U U (by have:d36.length=36:=U;omega) ?_
  rw[PZ x h]
  refine yb (j:=64 - DL.length) U U U U av av ?_
  rw[Qc _ av]
  refine xS ?_
  refine X.st (JA:=bI (64 - DL.length) (.int .u8 0)++fO (lV x)::DL.map fO) U U U U U U ?_ ?_
  ·grind [Kj,fO,List.length_replicate]
  refine xS ?_
  refine UU (l:=64 - DL.length) (h:=65) U U U (Bd.at U av) Bd.no av (ar _) av ?_
  rw[aQ,show 65 - (64 - DL.length)=(lV x::DL).length from by grind]
  refine iu Bl (λx=>[fO x]) (bI (64 - DL.length) 0++lV x::DL) (by rw[<-lD];simp[fO]) (λ_=>rfl) ?_
  refine aU5 Bl (64 - DL.length) nH ?_
  rw[show(bI (64 - DL.length) (0:UInt8)++lV x::DL).drop (64 - DL.length)=lV x::DL from by grind]
  exact bj6
theorem W8:TR ab GG 159 #[.int .u64 u.toNat,.int .i64 16] [] (cT (ao (If u.toNat))):=by
 refine aW U λb β hb hG=>?_;refine xJ (NT u) ?_;exact xR
theorem B5:TR ab GG 109 #[.int .u64 u.toNat,.int .i64 16] [] (cT (ao (If u.toNat))):=by
 refine aW U λb β hb hG=>?_;refine xJ (W8 u) ?_;exact xR
theorem KE:∀(f k u:Nat),u<16^(k+1)->(Ie f u).length<=k+1
 |0,_,_,_=>al _
 |f+1,k,u,h=>by
  unfold Ie;split
  ·simp
  ·rename_i h1;cases k with
   |zero=>omega
   |succ k=>
    have:=KE f k (u / 16) av
    grind
theorem DM(n:UInt32):(If n.toNat).length<=8:=KE 17 7 _ (Nat.lt_of_lt_of_le n.toNat_lt (show 2^32<=16^8 by decide))
def kH(c:Nat):Bs:=qZ.getD (2*c) []
def kI(c:Nat):Bs:=qZ.getD (2*c+1) []
def hU(c:Nat)(n:UInt32):Bs:=kH c++bI (8 - (If n.toNat).length) 48++If n.toNat++kI c
theorem yR(hc:1<=c/\c<=3)(n:UInt32):TR ab GG 186 #[.int .i64 c,.int .u32 n.toNat] [] (cT (ao (hU c n))):=by
 refine aW U λb β hb hG=>?_;have hl:=DM n;have NU:=hG.1.Wt;have Gk:BS β.r 3 (0+2*c) [ao (kH c),ao (kI c)]:=by
  refine BS.sub NU ?_;intro j v hj;have:c=1\/c=2\/c=3:=av;match j with
  |0=>grind [qZ,kH]
  |1=>rcases this with rfl|rfl|rfl<;>simpa[qZ,kI]using hj
  |j+2=>simp at hj
 have hhl:(kH c).length<=10/\(kI c).length<=10:=Qr;unfold hU;generalize kH c=hd at*;generalize kI c=tl at*;refine xS ?_;rw[show cN.wrap (n.toNat:Int)=(n.toUInt64.toNat:Int)from by rw[wrap_u64 _ (by have:=n.toNat_lt;omega)];simp];refine xJ (B5 n.toUInt64) ?_;rw[show n.toUInt64.toNat=n.toNat from by simp];generalize If n.toNat=hx at*;refine Jj 3 (0+2*c) [ao hd,ao tl] Gk (xS ?_);refine nR [0,1,2,3,4,5,6,8,9,10,11,12,13,14,15] [0] ?_;apply cW [0,1,2,3,4,5,6,9,11,12,13,14] U U U
 ·intro p hp;refine xS ?_;refine yb (j:=c) U U U U U av (xS ?_);refine uo U U U 0 av U (xS ?_);refine yb (j:=c) U U U U U av (xS ?_);refine uo U U U 1 av U (xS ?_);exact hp
 ·rfl
 ·rfl
 refine xS ?_;rw[show((8:Int) - (hx.length:Int))=((8 - hx.length:Nat):Int)from by omega];refine xJ (RZ GG (8 - hx.length) av) ?_;exact xR
end
end Go.Proofs
namespace Go.Proofs
open Go.Shelf
set_option maxRecDepth 8000
def wG:Go.Shelf.Ren:=⟨fun|316=>427|n=>n,fun|9=>9|3=>3|4=>4|37=>55|0=>0|127=>124|5=>5|n=>n,fun|n=>n⟩
theorem CI:Go.Proofs.LaysM.n316 ab wG:={
 mixed:=cA
 f316:=Tryz.func427.trans (congrArg some cA)
 t0:=Tryz.underlying0
 a0:=Tryz.isAgg0
 z0:=Tryz.sizeOf0
 v0:=Tryz.zeroValue0
 t3:=ed
 a3:=Tryz.isAgg3
 z3:=Tryz.sizeOf3
 v3:=Tryz.zeroValue3
 t4:=fY
 a4:=Tryz.isAgg4
 z4:=Tryz.sizeOf4
 v4:=Tryz.zeroValue4
 t9:=cO
 a9:=Tryz.isAgg9
 z9:=Tryz.sizeOf9
 v9:=Tryz.zeroValue9
 t37:=Tryz.underlying55
 a37:=Tryz.isAgg55
 z37:=Tryz.sizeOf55
 v37:=Tryz.zeroValue55
 t127:=Tryz.underlying124
 a127:=Tryz.isAgg124
 z127:=Tryz.sizeOf124
 v127:=Tryz.zeroValue124
 t5:=fX
 a5:=Tryz.isAgg5
 z5:=Tryz.sizeOf5
 v5:=Tryz.zeroValue5
 i0:=cA
 i3:=cA
 i4:=cA
 i5:=cA
 i9:=cA
 i37:=cA
 i127:=by kernel_rfl}
end Go.Proofs
namespace Go.Proofs
open Go.Sl
set_option maxRecDepth 8000
section
variable{n:UInt32}(name fn:Bs)(G:bZ)(s:Bs)
instance:TIf ab 62:=⟨_,Tryz.underlying62⟩
instance:NH ab 476:=⟨by kernel_rfl⟩
instance:NH ab 479:=⟨by kernel_rfl⟩
theorem KF(hq:G.q=false)(s:Bs)(hs:s.length<=1000000000000):TR ab G 427 #[ao s] [] (cT (ao s)):=
 TR.below hq λw=>Any.stringslite_Clone CI ⟨s.toArray⟩ w (by show s.toArray.size<=_;simp;omega)
def Al(c:UInt8):UInt8:=c|||32
instance bv7(c:UInt8):FJ ab 390 [fO c] [] (fO (Al c)):=⟨λG=>by
 refine cg U λb β hb hG=>?_;dsimp only[fO];refine xS ?_;exact bO hb (.tmps U) ⟨by have:=ax7 c 32;grind [lx,Al],U⟩⟩
def qN(c:UInt8):Nat:=if 48<=c.toNat/\c.toNat<=57 then c.toNat - 48 else if 97<=(Al c).toNat/\(Al c).toNat<=122 then(Al c).toNat - 87 else 255
def yS:Bs->Nat->Option Nat
 |[],n=>some n
 |c::r,n=>if 16<=qN c then none else if 4294967295<n*16+qN c then none else yS r (n*16+qN c)
def yT(s:Bs):Option Nat:=if s=[]then none else yS s 0
def PuR(o:Option Nat)(v:Value):Prop:=match o with
 |some n=>v=.tuple #[.int .u64 n,.nilIface]
 |none=>∃(n e:Int),(e=1\/e=2)/\v=.tuple #[.int .u64 n,.iface 476 (.int .i64 e)]
theorem KG:∀(s:Bs) (n m:Nat),n<=4294967295->yS s n=some m->m<=4294967295
 |[],n,m,h,e=>by cases e;exact h
 |c::r,n,m,h,e=>by
  unfold yS at e;split at e
  ·cases e
  ·split at e
   ·cases e
   ·exact KG r _ m av e
theorem KH(hs:s.length<=1000000000000):TR ab G 294 #[ao s,.int .i64 16,.int .i64 32] [] (cb λv B=>PuR (yT s) v/\B=[]):=by
 refine jr U λb β hb hG=>?_;have err:∀{N vs k Hs} (n e:Int),yT s=none->(e=1\/e=2)->lk vs 6=some (.int .u64 n)->lk vs 7=some (.iface 476 (.int .i64 e))->X ab b β none (.it (.code .ret::k)) ⟨N,vs,[]⟩ Hs (cb λv B=>PuR (yT s) v/\B=[]):=by
  intro N vs k Hs n e he h1 h2 h3;exact bO hb (.tmp h2 (.tmp h3 .nil)) ⟨by rw[he];exact⟨n,e,h1,U⟩,U⟩
 refine xB ?_ ?_<;>intro h1
 ·have h1:s=[]:=by grind
  refine xS ?_;refine qQ U U U (xS ?_);exact err 0 2 (by grind [yT]) (.inr U) U U
 ·have h1:s≠[]:=by grind
  have e0:yT s=yS s 0:=by grind [yT]
  refine xS ?_;refine MS U U U λa c hac=>xS ?_;refine X.loop (ι:={p:Nat×Nat // p.1<=s.length/\p.2<=4294967295/\yS s 0=yS (s.drop p.1) p.2}) (λp=>([(1,.int .i64 16),(8,.bool false),(10,.int .u64 1152921504606846976),(11,.int .u64 4294967295),(12,.bool false),(13,.int .u64 p.1.2),(99,.slice (some a) s.length c),(100,.int .i64 s.length),(101,.int .i64 p.1.1)],[bV RB 1 (some a) s])) (λp=>s.length - p.1.1) ⟨(0,0),al _,by decide,U⟩
   (Sub.cons U (Sub.cons U (Sub.cons U (Sub.cons (eN U cA) (Sub.of U))))) (aN.refl _) ?_
  rintro⟨⟨i,n⟩,hi,hn,hE⟩ ih;dsimp only at hi hn hE ih ⊢;refine xB ?_ ?_<;>intro h2
  ·have fw:i<s.length:=by grind
   rw[aP fw,yS]at hE;refine xS ?_;refine cH U U U U U fw U λbl o=>?_;generalize s[i]=ch at*;refine xS ?_;by_cases hc:ch=95
   ·subst hc;rw[if_pos de]at hE;exact bs8
   ·have hc':¬((ch.toNat:Int)=95):=by intro hh;exact hc (aa2.1 bE)
    refine aM 109 false U bE ?_;refine nh (ι:={_u:Unit // qN ch<=35}) (λ_=>([(1,.int .i64 16),(8,.bool false),(10,.int .u64 1152921504606846976),(11,.int .u64 4294967295),(12,.bool false),(13,.int .u64 n),(16,.int .u8 (qN ch)),(99,.slice (some a) s.length c),(100,.int .i64 s.length),(101,.int .i64 i)],[bV RB 1 (some a) s])) (λu=>?_) (λK fin=>?_)
    ·obtain⟨_,hd⟩:=u;refine xB ?_ ?_<;>intro h3
     ·have h3:16<=qN ch:=by
       have h9:cC.wrap 16=16:=de
       grind
      rw[if_pos h3]at hE;exact bs8
     ·have h3:¬16<=qN ch:=by
       have h9:cC.wrap 16=16:=de
       grind
      rw[if_neg h3]at hE;refine xB ?_ ?_<;>intro h4
      ·exact absurd h4 bB
      ·refine xS ?_;rw[show cN.wrap ((n:Int)*cN.wrap 16)=((n*16:Nat):Int)from by
        rw[show cN.wrap 16=16 from by kernel_rfl,show(n:Int)*16=((n*16:Nat):Int)from by omega,wrap_u64 _ av],
        wrap_u64 (qN ch) av,show((n*16:Nat):Int)+((qN ch:Nat):Int)=((n*16+qN ch:Nat):Int)from by omega,wrap_u64 (n*16+qN ch) av]
       refine aM 155 false U bB  ?_;refine xB ?_ ?_<;>intro h5
       ·have h5:4294967295<n*16+qN ch:=by grind
        rw[if_pos h5]at hE;refine xS ?_;refine qQ U U U (xS ?_);exact err _ 1 (by rw[e0,hE]) (.inl U) U U
       ·have h5:¬4294967295<n*16+qN ch:=by grind
        rw[if_neg h5]at hE;refine xS ?_;exact X.less (ih ⟨(i+1,n*16+qN ch),fw,by omega,hE⟩ bE) (s9_ U U U U U U U U (eN U nH)) ay
    ·refine xS ?_;have bad:∀{N vs k Hs},16<=qN ch->lk vs 6=some (.int .u64 0)->lk vs 7=some (.iface 476 (.int .i64 2))->X ab b β none (.it (.code .ret::k)) ⟨N,vs,[]⟩ Hs (cb λv B=>PuR (yT s) v/\B=[]):=by
      intro N vs k Hs h9 h6 h7;rw[if_pos h9]at hE;exact err 0 2 (by rw[e0,hE]) (.inr U) h6 h7
     have low:¬(48<=ch.toNat/\ch.toNat<=57)->qN ch=if 97<=(Al ch).toNat/\(Al ch).toNat<=122 then(Al ch).toNat - 87 else 255:=by
      grind [qN]
     have dig:∀x:Int,(x:Int)=qN ch->qN ch<=35->True:=λ_ _ _=>trivial;refine xT 115 ?_ ?_<;>intro h3
     ·have h3:48<=ch.toNat:=by grind
      refine xB ?_ ?_<;>intro h4
      ·have h4:ch.toNat<=57:=by grind
       have hdv:qN ch=ch.toNat - 48:=by grind [qN]
       refine xS ?_;exact X.less (fin ⟨(),by omega⟩) (Sub.cons U (Sub.cons U (Sub.cons U (Sub.cons U (Sub.cons U (Sub.cons U (Sub.cons (eN U (by grind [wrap_u8])) (Sub.of U)))))))) ay
      ·have h4:¬ch.toNat<=57:=by grind
       exact Vu
     ·have h3:¬48<=ch.toNat:=by grind
      exact Vu
  ·have fw:i=s.length:=by grind
   subst fw;rw[List.drop_length,yS]at hE;refine xS ?_;exact bO hb (.tmps U) ⟨by rw[e0,hE];rfl,U⟩
theorem Sc(hs:s.length<=1000000000000):TR ab GG 351 #[ao fn,ao s] [] (cb λv B=>∃p,v=au p/\B=[]):=by
 refine aW U λb β hb hG=>?_;obtain⟨te,pe,hA⟩:=hG.1.e8;refine Jj 8 0 [.iface te pe] hA (xS ?_);exact az4
theorem Sd(hs:s.length<=1000000000000):TR ab GG 352 #[ao fn,ao s] [] (cb λv B=>∃p,v=au p/\B=[]):=by
 refine aW U λb β hb hG=>?_;obtain⟨te,pe,hA⟩:=hG.1.e9;refine Jj 9 0 [.iface te pe] hA (xS ?_);exact az4
theorem NV(hs:s.length<=1000000000000)(x y e:Int)(he:e=1\/e=2):TR ab GG 249 #[ao fn,ao s,.int .i64 x,.int .i64 y,.iface 476 (.int .i64 e)] [] (cb λv B=>∃p,v=.iface 479 (au p)/\B=[]):=by
 refine TR.go (us:=[_,_,_,_,_]) (aI U) λb β hb hG=>?_;rcases he with rfl|rfl
 ·refine xS ?_;refine qQ U U U ?_;refine M0 cA U U U U (xS ?_);refine qQ U U U ?_;refine M0 cA U U U U (xS ?_);refine bw (Sd fn s hs) ?_;exact Qh
 ·refine xS ?_;refine qQ U U U ?_;refine M0 cA U U U U (xS ?_);refine bw (Sc fn s hs) ?_;exact Qh
def bw0(o:Option Nat)(v:Value):Prop:=match o with
 |some n=>v=.tuple #[.int .u64 n,.nilIface]
 |none=>∃(n:Int) (p:Nat),v=.tuple #[.int .u64 n,.iface 479 (au p)]
theorem Ik(hs:s.length<=1000000000000):TR ab GG 185 #[ao s,.int .i64 16,.int .i64 32] [] (cb λv B=>bw0 (yT s) v/\B=[]):=by
 refine jr U λb β hb hG=>xS ?_;refine bw (KH GG s hs) ?_;rintro v B ⟨hv,rfl⟩;dsimp only[ae,ai,ah];cases hp:yT s with
 |none=>
  rw[hp]at hv;obtain⟨n,e,he,rfl⟩:=hv;refine xS ?_;refine pg U U U U U (xS ?_);refine bw (NV [80,97,114,115,101,85,105,110,116] s hs 16 32 e he) ?_;rintro v B ⟨p,rfl,rfl⟩;refine xD ?_;exact bO hb (.tmps U) ⟨⟨n,p,U⟩,U⟩
 |some n=>
  rw[hp]at hv;have hv:_=_:=hv;subst hv;refine xS ?_;refine pg U U U U U (xS ?_);exact bO hb (.tmps U) ⟨by show _=_;rfl,U⟩
def ia:Bs:=[46,116,109,112]
def uQ(name:Bs)(c:Nat):Option UInt32:=
 if(kX name (kH c)).2=true/\(jF (kX name (kH c)).1 (kI c)).2=true then
  match yT (jF (kX name (kH c)).1 (kI c)).1 with
  |some n=>if 0<n/\hU c (gz n)=name then some (gz n)else none
  |none=>none
 else none
def bJ(name:Bs):Nat×UInt32:=
 if rz name ia=true then(4,0)else
 match uQ name 1 with
 |some n=>(1,n)
 |none=>match uQ name 2 with
  |some n=>(2,n)
  |none=>match uQ name 3 with
   |some n=>(3,n)
   |none=>(0,0)
def wX:Nat->Bs->Nat->Nat×UInt32
 |0,_,_=>(0,0)
 |f+1,name,c=>match uQ name c with
  |some n=>(c,n)
  |none=>wX f name (c+1)
theorem NW:bJ name=if rz name ia=true then(4,0)else wX 3 name 1:=by
 grind [bJ,wX]
theorem DN(p:Bs):(jF s p).1.length<=s.length:=by
 grind [jF]
theorem NX(p:Bs):(kX s p).1.length<=s.length:=by
 grind [kX]
theorem KI{s:Bs}{n:Nat}(h:yT s=some n):n<=4294967295:=by
 unfold yT at h;split at h
 ·cases h
 ·exact KG s 0 n av h
theorem Bv(n:Nat):dK.wrap (n:Int)=((gz n).toNat:Int):=by
 rw[yv];simp
theorem mF(hs:name.length<=1000000000000):TR ab GG 126 #[ao name] [] (cT (.tuple #[.int .i64 (bJ name).1,.int .u32 (bJ name).2.toNat])):=by
 refine cg U λb β hb hG=>?_;have NU:=hG.1.Wt;have Gk:∀c,1<=c/\c<=3->BS β.r 3 (0+2*c) [ao (kH c),ao (kI c)]:=by
  intro c hc;refine BS.sub NU ?_;intro j v hj;have:c=1\/c=2\/c=3:=av;match j with
  |0=>rcases this with rfl|rfl|rfl<;>simpa[qZ,kH]using hj
  |1=>rcases this with rfl|rfl|rfl<;>simpa[qZ,kI]using hj
  |j+2=>simp at hj
 rw[NW];refine xJ (ag6 GG name ia hs) ?_;refine xB ?_ ?_<;>intro h1
 ·rw[if_pos h1];exact xR
 ·rw[if_neg Ic];generalize hR:wX 3 name 1=Rr;refine xS ?_;refine eT [0] [] (ι:={p:Nat×Nat // 1<=p.2/\p.1+p.2=4/\wX p.1 name p.2=Rr}) (λp q_=>(4,.int .i64 p.1.2)::q_) (λp q_=>q_) (λp=>p.1.1) ⟨(3,1),by decide,U,hR⟩ ?_;rintro⟨⟨f,c⟩,Db,hfc,hE⟩ ih;dsimp only at Db hfc hE ih ⊢;refine xB ?_ ?_<;>intro h2
  ·have h2:c<=3:=by simp at h2;omega
   obtain⟨f,rfl⟩:∃q,f=q+1:=⟨f - 1,by omega⟩;refine Jj 3 (0+2*c) [ao (kH c),ao (kI c)] (Gk c ⟨Db,h2⟩) ?_;rw[wX]at hE;have hT:uQ name c=if(kX name (kH c)).2=true/\(jF (kX name (kH c)).1 (kI c)).2=true then
    match yT (jF (kX name (kH c)).1 (kI c)).1 with
    |some n=>if 0<n/\hU c (gz n)=name then some (gz n)else none
    |none=>none
    else none:=U
   have Fl:=NX name (kH c);refine xS ?_;refine yb (j:=c) U U U U U av (xS ?_);refine uo U U U 0 av U (xS ?_);generalize kX name (kH c)=q at*;obtain⟨s1,ok1⟩:=q;dsimp only at hT Fl ⊢;refine yb (j:=c) U U U U U av (xS ?_);refine uo U U U 1 av U  ?_;refine xJ (ag7 GG s1 (kI c) av) ?_;have pz:=DN s1 (kI c);generalize jF s1 (kI c)=q at*;obtain⟨s2,ok2⟩:=q;dsimp only at hT pz ⊢;refine xS ?_;refine bw (Ik s2 av) ?_;rintro v B ⟨hv,rfl⟩;dsimp only[ae,ai,ah];cases hp:yT s2 with
   |none=>
    rw[hp]at hv hT;obtain⟨n,p,rfl⟩:=hv;have hT:uQ name c=none:=by rw[hT];split<;>rfl
    rw[hT]at hE;dsimp only at hE;cases ok1
    ·exact bx5
    ·cases ok2
     ·exact bx5
     ·refine xS ?_;refine pg U U U U U (xS ?_);exact mz9
   |some n=>
    rw[hp]at hv hT;have hv:_=_:=hv;subst hv;dsimp only at hT;have hn32:=KI hp;cases ok1
    ·exact PN
    ·cases ok2
     ·exact PN
     ·rw[if_pos ⟨U,U⟩]at hT;refine xS ?_;refine pg U U U U U  ?_;refine xT 52 ?_ ?_<;>intro h5
      ·have h5:0<n:=by simp at h5;omega
       refine xS ?_;rw[Bv n];refine xJ (yR c ⟨Db,h2⟩ (gz n)) ?_;refine xB ?_ ?_<;>intro h6
       ·have h6:hU c (gz n)=name:=by simpa using h6
        rw[if_pos ⟨h5,h6⟩]at hT;rw[hT]at hE;dsimp only at hE;refine xS ?_;rw[Bv n];exact bB5
       ·have h6:¬hU c (gz n)=name:=by simpa using h6
        rw[if_neg (by rintro⟨_,hh⟩;exact h6 hh)]at hT;exact bk3
      ·have h5:¬0<n:=by simp at h5;omega
       rw[if_neg (by rintro⟨hh,_⟩;exact h5 hh)]at hT;exact bk3
  ·have h2:¬c<=3:=by simp at h2;omega
   obtain rfl:f=0:=av;rw[wX]at hE;refine xS ?_;exact bB5
instance aF6(c:Int):FJ ab 322 [.int .i64 c] [] (.bool (decide (1<=c)&&decide (c<=3))):=⟨λG=>by
 refine cg U λb β hb hG=>?_;refine xT 5 ?_ ?_<;>intro h
 ·exact ad6
 ·refine xS ?_;exact bO hb (.tmps U) ⟨by grind [lx],U⟩⟩
theorem Qd(hs:s.length<=1000000000000):TR ab G 370 #[ao s] [] (cT (ao (s++ia))):=by
 refine cg U λb β hb hG=>?_;exact xR
def fH(c:Nat)(n:UInt32):Bs×Int:=if 1<=c/\c<=3/\n≠0 then(hU c n,0)else([],60)
theorem yU(c:Nat)(n:UInt32):TR ab GG 217 #[.int .i64 c,.int .u32 n.toNat] [] (cT (.tuple #[ao (fH c n).1,.int .i64 (fH c n).2])):=by
 refine aW U λb β hb hG=>?_;have bad:∀{N vs k Hs},¬(1<=c/\c<=3/\n≠0)->lk vs 4=some (ao [])->lk vs 5=some (.int .i64 60)->X ab b β none (.it (.code .ret::k)) ⟨N,vs,[]⟩ Hs (cT (.tuple #[ao (fH c n).1,.int .i64 (fH c n).2])):=by
  intro N vs k Hs he h1 h2;exact bO hb (.tmp h1 (.tmp h2 .nil)) ⟨by unfold fH;rw[if_neg he];rfl,U⟩
 refine xT 9 ?_ ?_<;>intro h
 ·refine xS ?_;exact bad bE U U
 ·have h:1<=c/\c<=3:=by grind
  refine xB ?_ ?_<;>intro h2
  ·have h2:n=0:=by apply dM.1;grind
   refine xS ?_;exact bad bE U U
  ·have h2:n≠0:=by rintro rfl;simp at h2
   refine xJ (yR c h n) ?_;exact bO hb (.tmps U) ⟨by unfold fH;rw[if_pos ⟨h.1,h.2,h2⟩];rfl,U⟩
def eY(name:Bs):Bs×Bool:=if(bJ name).1=1 then(hU 2 (bJ name).2,true)else if(bJ name).1=2 then(hU 1 (bJ name).2,true)else([],false)
theorem vE(hs:name.length<=1000000000000):TR ab GG 172 #[ao name] [] (cT (.tuple #[ao (eY name).1,.bool (eY name).2])):=by
 refine cg U λb β hb hG=>?_;refine xJ (mF name hs) ?_;unfold eY;generalize bJ name=q;obtain⟨c,n⟩:=q;dsimp only;refine xB ?_ ?_<;>intro h1
 ·rw[if_pos bE];refine xJ (yR 2 de n) ?_;exact xR
 ·rw[if_neg bE];refine xB ?_ ?_<;>intro h2
  ·rw[if_pos bE];refine xJ (yR 1 de n) ?_;exact xR
  ·rw[if_neg bE];exact xR
def jx(c:Nat)(l:List Bs):List UInt32:=
 l.filterMap λs=>let p:=bJ (jF s ia).1
  if(1<=p.1/\p.1<=3)/\(decide (p.1=3)=decide (c=3))then some p.2 else none
def DO(ts:List UInt32):Nat->UInt32->UInt32
 |0,n=>n
 |f+1,n=>if n∈ts then DO ts f (n+1)else n
def fW(c:Nat)(l:List Bs):UInt32×Int:=if 1<=c/\c<=3 then(DO (jx c l) (l.length+1) 1,0)else(0,60)
theorem mV{K:Type}[DecidableEq K](M:List (K×Value))(x y:K)(v:Value):fB (gJ M x v) y=if y=x then some v else fB M y:=by
 unfold gJ fB;cases h:M.findIdx? (·.1=x)with
 |none=>
  grind
 |some i=>
  simp only
  obtain⟨hi,hx,tV⟩:=bA.1 h
  simp only[decide_eq_true_eq]at hx tV
  have key:∀(M:List (K×Value)) (i:Nat) (hi:i<M.length),M[i].1=x->(∀j (U4:j<i),¬(M[j]' av).1=x)->((M.set i (x,v)).find? (·.1=y)).map (·.2)=if y=x then some v else(M.find? (·.1=y)).map (·.2):=by
   intro M;induction M with
   |nil=>grind
   |cons p r ih=>
    intro i hi h1 h2;cases i with
    |zero=>
     grind
    |succ i=>
     have hp:¬p.1=x:=h2 0 av
     grind
  grind
instance:wO ab 3 (.int .i64 0):=⟨by kernel_rfl⟩
@[reducible] def Sf(x:UInt32):Value:=.int .u32 x.toNat
theorem Am:Keyed ab 139 Sf:=Rg (kk:=.u32) (λx:UInt32=>(x.toNat:Int)) (λx y h=>dM.1 av)
theorem FU{ts:List UInt32}(h:n∈ts)(hn:n.toNat<4294967295):(ts.filter λx=>decide ((n+1).toNat<=x.toNat)).length<(ts.filter λx=>decide (n.toNat<=x.toNat)).length:=by
 have h1:(n+1).toNat=n.toNat+1:=by
  grind [UInt32.toNat_add]
 rw[h1];have h2:(ts.filter λx=>decide (n.toNat+1<=x.toNat))=(ts.filter λx=>decide (n.toNat<=x.toNat)).filter λx=>decide (n.toNat+1<=x.toNat):=by
  rw[List.filter_filter]
  grind
 rw[h2];refine List.length_filter_lt_length_iff_exists.2 ⟨n,dZ.2 ⟨h,by simp⟩,by simp⟩
theorem Sg{name:Bs}{c:Nat}(h:uQ name c=some n):n≠0:=by
 unfold uQ at h;split at h
 ·split at h
  ·rename_i m hm;split at h
   ·rename_i h2;cases h;have h3:=KI hm;intro h4;have h5:(gz m).toNat=m:=by grind [UInt32.toNat_ofNat']
    simp_all
   ·cases h
  ·cases h
 ·cases h
theorem KJ(h:1<=(bJ name).1/\(bJ name).1<=3):(bJ name).2≠0:=by
 grind [bJ,Sg]
theorem KO(c:Nat)(l:List Bs):(0:UInt32)∉jx c l:=by
 grind [jx,KJ]
theorem DP(c:Nat)(a:Option Addr)(n cp:Nat)(l:List Bs)(hn:l.length=n)(hs:n<=1000000000000)(hb:∀s∈l,s.length<=1000000000000):
 TR ab GG 308 #[.int .i64 c,.slice a n cp] [bV (bp λs:Bs=>[ao s]) 1 a l] (cT (.tuple #[.int .u32 (fW c l).1.toNat,.int .i64 (fW c l).2])):=by
 refine aW U λb β l9 hG=>?_
 unfold fW
 refine xB ?_ ?_<;>intro h1
 ·have h1:¬(1<=c/\c<=3):=by grind
  rw[if_neg h1];refine xS ?_;exact X.ret l9 (.tmps U) ⟨_,⟨U,U⟩,aN.nil _⟩
 ·have h1:1<=c/\c<=3:=by grind
  rw[if_pos h1];refine xS ?_;refine qR Sf U U λM=>xS ?_;refine eT [0,6,16,17] [0] (ι:={p:Nat×List (UInt32×Value) // p.1<=n/\∀x,(fB p.2 x).getD (.int .i64 0)=.int .i64 ((jx c (l.take p.1)).count x)}) (λp q_=>(18,.int .i64 p.1.1)::q_) (λp q_=>mp Sf M p.1.2::q_) (λp=>n - p.1.1) ⟨(0,[]),al _,λx=>rfl⟩ ?_;rintro⟨⟨i,Q⟩,hi,hQ⟩ ih;dsimp only at hi hQ ih ⊢;refine xB ?_ ?_<;>intro h2
  ·have fw:i<l.length:=by grind
   have vy:jx c (l.take (i+1))=jx c (l.take i)++jx c [l[i]]:=by
    rw[show l.take (i+1)=l.take i++[l[i]]from by simp]
    grind [jx]
   have wm:(jx c (l.take i)).length<=n:=by
    grind [jx]
   have sI:=hb _ (aB fw);refine xS ?_;refine cH U U U U U fw hn λbl o=>?_;generalize l[i]=s at*;refine xJ (ag8 GG s ia sI) ?_;have hsl2:=DN s ia;refine xJ (mF (jF s ia).1 av) ?_;have ht1:jx c [s]=if(1<=(bJ (jF s ia).1).1/\(bJ (jF s ia).1).1<=3)/\(decide ((bJ (jF s ia).1).1=3)=decide (c=3))then[(bJ (jF s ia).1).2]else[]:=by
    grind [jx]
   generalize bJ (jF s ia).1=q at*;obtain⟨d,m⟩:=q;dsimp only at ht1 ⊢;have no:¬((1<=d/\d<=3)/\(decide (d=3)=decide (c=3)))->∀x,(fB Q x).getD (.int .i64 0)=.int .i64 ((jx c (l.take (i+1))).count x):=by
    grind
   refine xT 30 ?_ ?_<;>intro h3
   ·have h3:1<=d/\d<=3:=by grind
    refine xS ?_;refine UL U U U U  ?_;refine xB ?_ ?_<;>intro h4
    ·have h4:decide (d=3)=decide (c=3):=by
      grind
     rw[if_pos ⟨h3,h4⟩]at ht1
     have hcnt:((jx c (l.take i)).count m)<=n:=aj List.count_le_length wm
     refine xS ?_
     refine qS m Am U U U U (λw _=>wO.run inferInstance w) ?_
     rw[hQ m]
     refine xS ?_
     refine qi m Am U U U U (xS ?_)
     refine X.less (ih ⟨(i+1,gJ Q m (.int .i64 (((jx c (l.take i)).count m:Nat)+1:Int))),by omega,λx=>?_⟩ gm) (Y7 U U U U (eN U nH)) ay
     dsimp only
     rw[mV,vy,ht1,List.count_append]
     grind
    ·have h4:¬decide (d=3)=decide (c=3):=by
      grind
     refine xS ?_;exact X.less (ih ⟨(i+1,Q),by omega,no bE⟩ bE) (Y7 U U U U (eN U nH)) ay
   ·have h3:¬(1<=d/\d<=3):=by grind
    refine xS ?_;exact X.less (ih ⟨(i+1,Q),by omega,no av⟩ bE) (Y7 U U U U (eN U nH)) ay
  ·have fw:i=n:=by grind
   subst fw
   rw[aD av]at hQ
   have hlen:(jx c l).length<=i:=by
    grind [jx]
   have hz:=KO c l
   rw[hn]
   generalize jx c l=ts at*
   obtain⟨R0,hR0⟩:∃R0,R0=DO ts (i+1) 1:=⟨_,U⟩
   rw[<-hR0]
   refine xS ?_
   refine X.loop (ι:={p:Nat×UInt32 // ((1<=p.2.toNat/\(ts.filter λx=>decide (p.2.toNat<=x.toNat)).length<p.1)\/(p.2=0/\0<p.1))/\R0=DO ts p.1 p.2}) (λp=>([(6,.map (some M)),(11,.int .u32 p.1.2.toNat)],[mp Sf M Q])) (λp=>p.1.1) ⟨(i+1,1),.inl ⟨(show 1<=(1:UInt32).toNat by decide),?_⟩,hR0⟩ (Sub.of U) ay ?_
   ·grind
   rintro⟨⟨f,x⟩,hx,hE⟩ ih
   dsimp only at hx hE ih ⊢
   obtain⟨f,rfl⟩:∃q,f=q+1:=⟨f - 1,by omega⟩
   rw[DO]at hE
   refine xS ?_
   refine qS x Am U U U U (λw _=>wO.run inferInstance w) ?_
   rw[hQ x]
   refine xB ?_ ?_<;>intro h3
   ·have h3:x∈ts:=by
     grind
    rw[if_pos h3]at hE
    have hx0:x≠0:=bE
    obtain⟨jz,hx3⟩:1<=x.toNat/\(ts.filter λy=>decide (x.toNat<=y.toNat)).length<f+1:=by
     grind
    have hw32:dK.wrap ((x.toNat:Int)+1)=((x+1).toNat:Int):=by
     grind [UInt32.toNat_add,ic,iW,gy]
    refine xS ?_
    refine X.less (ih ⟨(f,x+1),?_,hE⟩ gm) (s2_ U (eN U (by rw[hw32]))) ay
    dsimp only
    have zW:0<(ts.filter λy=>decide (x.toNat<=y.toNat)).length:=List.length_pos_of_mem (dZ.2 ⟨h3,by simp⟩)
    by_cases hmx:x.toNat<4294967295
    ·grind [FU,UInt32.toNat_add]
    ·have hx':x+1=0:=by
      apply dM.1;rw[UInt32.toNat_add];have h1':(1:UInt32).toNat=1:=U;have h0':(0:UInt32).toNat=0:=U;have:=x.toNat_lt;omega
     grind
   ·have h3:x∉ts:=by
     grind
    rw[if_neg h3]at hE;refine xS ?_;exact X.ret l9 (.tmps U) ⟨_,⟨by rw[hE];rfl,U⟩,aN.nil _⟩
instance:CX ab 443 Extern.BytealgCompare.compare:=⟨λargs w=>run_callFunc_extern (fn:=Tryz.f443) U U U U U args w⟩
theorem Si(x y:Bs):TR ab G 365 #[ao x,ao y] [] (cT (.int .i64 (cI x y))):=by
 refine aW U λb β hb hG=>xS ?_;refine CW U U U (λw hs=>Lib.run_compareString ⟨x.toArray⟩ ⟨y.toArray⟩ w)  ?_;exact xR
instance bb0(x y:Bs):FJ ab 263 [ao x,ao y] [] (.int .i64 (cI x y)):=⟨λG=>by
 refine aW U λb β hb hG=>?_;refine xJ (Si G x y) ?_;exact bO hb (.tmps U) ⟨U,U⟩⟩
def cfN(x y:B0):Int:=if x.no≠y.no then(x.no.toNat:Int) - y.no.toNat else cI x.iD.name y.iD.name
theorem aZ2(x y:WB B0):TR ab G 262 #[.agg (lh x).toArray,.agg (lh y).toArray] [] (cT (.int .i64 (cfN x.1 y.1))):=by
 refine aW U λb β hb hG=>?_;obtain⟨⟨xf,xn⟩,xa,xc⟩:=x;obtain⟨⟨yf,yn⟩,ya,yc⟩:=y;have h1:=xn.toNat_lt;have h2:=yn.toNat_lt;refine xP ?_;intro b2;refine xP ?_;intro b3;refine xB ?_ ?_<;>intro h
 ·have me:xn≠yn:=by
   grind
  have e1:dV.wrap (xn.toNat:Int)=xn.toNat:=aX2;have e2:dV.wrap (yn.toNat:Int)=yn.toNat:=aX2;refine xS ?_;rw[e1];refine xS ?_;rw[e2];refine xS ?_;exact bO hb (.tmps U) ⟨by rw[cfN,if_pos me];rfl,U⟩
 ·have heq:xn=yn:=by
   grind [dM]
  subst heq;refine xS ?_;exact bO hb (.tmps U) ⟨by rw[cfN,if_neg nH];rfl,U⟩
def nQ(c:Int)(q:List (WB bn)):List (WB B0):=q.filterMap λx=>if((bJ x.1.name).1:Int)=c then some (⟨x.1,(bJ x.1.name).2⟩,x.2)else none
def nP(c:Int)(l:List bn):List B0:=l.filterMap λx=>if((bJ x.name).1:Int)=c then some ⟨x,(bJ x.name).2⟩else none
theorem Xa(c:Int):∀q:List (WB bn),(nQ c q).map (·.1)=nP c (q.map (·.1))
 |[]=>rfl
 |x::q=>by
  have ih:=Xa c q;unfold nQ nP at*;rw[aK,eI,eI,<-ih];split
  ·rename_i h;split at h
   ·cases h
   ·rename_i h2;rw[if_neg h2]
  ·rename_i y h;split at h
   ·rename_i h2;cases h;rw[if_pos h2];rfl
   ·cases h
theorem aj5(c:Int)(q:List (WB bn))(i:Nat)(h:i<q.length):nQ c (q.take (i+1))=nQ c (q.take i)++(if((bJ q[i].1.name).1:Int)=c then[(⟨q[i].1,(bJ q[i].1.name).2⟩,q[i].2)]else[]):=by
 grind [aY,nQ]
theorem Xb(c:Int)(q:List (WB bn)):(nQ c q).length<=q.length:=List.length_filterMap_le _ _
def lJ(c:Int)(q:List (WB bn)):List (WB B0):=kf (λx y=>decide (cfN x.1 y.1<0)) (nQ c q)
def vY(c:Int)(l:List bn):List B0:=kf (λx y=>decide (cfN x y<0)) (nP c l)
theorem vF(c:Int)(q:List (WB bn)):(lJ c q).map (·.1)=vY c (q.map (·.1)):=by
 grind [lJ,vY,DG,Xa]
theorem oc{c:Int}{q:List (WB bn)}{x:WB B0}(h:x∈lJ c q):(x.1.iD,x.2)∈q:=by
 have h1:=(iT _ _).mem_iff.1 h
 obtain⟨y,hy,h2⟩:=List.mem_filterMap.1 h1
 grind
theorem Il(c:Int)(a:Option Addr)(n cp:Nat)(q:List (WB bn))(hn:q.length=n)(hs:n<=1000000000000)(hb:∀x∈q,x.1.name.length<=1000000000000):
 TR ab GG 168 #[.slice a n cp,.int .i64 c] [bV (bp bG) 2 a q] (cb (Rl lh 262 3 (lJ c q))):=by
 refine aW U λb β Sj hG=>xS ?_
 refine X.cd (ej 262 3 _) ?_
 refine eT [1,10] [0] (ι:={z:Nat×Option Addr×Nat // z.1<=n}) (λz q_=>(5,.slice z.1.2.1 (nQ c (q.take z.1.1)).length z.1.2.2)::(11,aX n)::(12,aX z.1.1)::q_) (λz q_=>own 262 3 z.1.2.1 (nQ c (q.take z.1.1)).length z.1.2.2 ((nQ c (q.take z.1.1)).flatMap lh)::q_) (λz=>n - z.1.1) ⟨(0,none,0),al _⟩ ?_
 rintro⟨⟨i,a5,c5⟩,hi⟩ ih
 dsimp only at hi ⊢
 have hl:(nQ c (q.take i)).length<=n:=by
  grind [Xb]
 refine xB ?_ ?_<;>intro h
 ·have hi:i<q.length:=by grind
  have j6:=aj5 c q i hi
  have hbx:=hb _ (aB hi)
  generalize hr:nQ c (q.take i)=r at*
  refine xS ?_
  refine cH U U U U U hi hn λbl o=>?_
  generalize q[i]=x at*
  refine xS ?_
  refine dF U U U U  ?_
  refine xA ?_
  intro b7
  refine xJ (mF x.1.name hbx) ?_
  refine xB ?_ ?_<;>intro h2
  ·have h2:((bJ x.1.name).1:Int)=c:=by grind
   rw[if_pos h2]at j6
   refine xZ ?_
   intro b9
   refine eD (((⟨x.1,(bJ x.1.name).2⟩,x.2):WB B0)) U U U U (by omega) U (by rfl) (by rfl) (by rfl) (by rfl) (by rfl) (by omega) λa8 c8=>xS ?_
   refine X.less (ih ⟨(i+1,a8,c8),by omega⟩ (by grind)) ?_ ?_
   ·dsimp only
    rw[j6]
    exact(Y7 U U U U (eN U (by simp[aX])))
   ·dsimp only
    rw[j6]
    exact ay
  ·have h2:¬((bJ x.1.name).1:Int)=c:=by grind
   rw[if_neg h2,ah]at j6
   refine xS ?_
   refine X.less (ih ⟨(i+1,a5,c5),by omega⟩ (by grind)) ?_ ?_
   ·dsimp only
    rw[j6]
    exact(Y7 U U U U (eN U (by simp[aX])))
   ·dsimp only
    rw[j6]
    exact ay
 ·have fw:i=n:=by grind
  subst fw
  rw[aD (by omega)]at hl ⊢
  refine xE (SN.GJ GG (λx y=>cfN x.1 y.1) 262 (λx y=>aZ2 GG x y) a5 _ c5 (nQ c q) U (by omega)) ?_
  exact X.ret Sj (.tmps U) ⟨_,⟨a5,c5,by grind [lx,lJ,jS],U⟩,by rw[lJ,jS];exact ay⟩
end
section
variable(G:bZ)(a:Option Addr)(n c i:Nat)(I:Int)(q:List (WB bn))
instance:Ug ab 492 6 491:=⟨Tryz.underlying492⟩
structure eH where
 op:Int
 name:Bs
 uc:Bs
 data:Bs
 n:Int
deriving DecidableEq
@[reducible] def db(x:WB eH):List Value:=[.int .i64 x.1.op,ao x.1.name,ao x.1.uc,.slice x.2.1 x.1.data.length x.2.2,.int .i64 x.1.n]
def NY(r:Option (List bn))(v:Value)(B:List az):Prop:=match r with
 |none=>∃u,v=.tuple #[u,.bool false]/\B=[]
 |some l=>∃a c,∃q:List (WB bn),q.map (·.1)=l/\v=.tuple #[.slice a q.length c,.bool true]/\B=[own 70 2 a q.length c (q.flatMap bG),dz bn.data q]
def rB(l:List bn)(i:Nat):bn:=l.getD i ⟨[],[]⟩
theorem DQ(i:Nat)(h:i<q.length):rB (q.map (·.1)) i=q[i].1:=by
 grind [rB]
def wY(l:List bn)(i:Nat)(bD5:Bs):List bn:=
 if 0<=iH l bD5 then(l.set i ⟨bD5,(rB l i).data⟩).eraseIdx (iH l bD5).toNat else l.set i ⟨bD5,(rB l i).data⟩
def uR(op:Int)(l:List bn)(i:Nat)(s:eH):Option (List bn):=
 if op=1 then some (l.eraseIdx i)else if op=2 then some (l++[⟨s.name,s.data⟩])else if op=3 then some l
 else if op=4 then(if dy s.uc=false then none else if s.uc=s.name then some l else some (wY l i s.uc))
 else if s.n<0\/s.n>(rB l i).data.length then none else some (l.set i ⟨(rB l i).name,(rB l i).data.take s.n.toNat⟩)
theorem An{α:Type}(p:α->Bool):∀(k:Nat) (l:List α),0<=cy p k l->(cy p k l).toNat<k+l.length/\k<=(cy p k l).toNat
 |k,[],h=>by grind [cy]
 |k,x::r,h=>by
  unfold cy at h ⊢
  split at h
  ·grind
  ·rename_i h1
   rw[if_neg h1]
   have:=An p (k+1) r h
   grind
theorem qz{l:List bn}{nm:Bs}(h:0<=iH l nm):(iH l nm).toNat<l.length:=by
 have:=An _ 0 l h;grind [iH]
theorem aj6(hI:I=i)(q:List (WB bn))(hn:q.length=n)(hi:i<n)(hs:n<=1000000000000)(st:WB eH):
 TR ab G 444 #[.slice a n c,.int .i64 I,.agg (db st).toArray] [own 70 2 a n c (q.flatMap bG),dz bn.data q] (cb (NY (uR 1 (q.map (·.1)) i st.1))):=by
 subst hI
 refine jr U λb β hb hG=>?_
 refine xP ?_
 intro b5
 refine ei hG (Qb G a n c i _ _ U av q hn hi hs) U U U aN.es ?_
 rintro v B ⟨a2,c2,rfl,rfl⟩
 refine xD ?_
 refine rK (data:=bn.data) q (q.eraseIdx i) (λx hx=>List.mem_of_mem_eraseIdx hx) ?_
 exact bO hb (.tmps U) ⟨a2,c2,q.eraseIdx i,map_eraseIdx _ _ _,U,U⟩
theorem aj7(hn:q.length=n)(hs:n<=1000000000000)(st:WB eH):
 TR ab G 446 #[.slice a n c,.int .i64 I,.agg (db st).toArray] [own 70 2 a n c (q.flatMap bG),dz bn.data q,dz eH.data [st]] (cb (NY (uR 2 (q.map (·.1)) i st.1))):=by
 subst hn
 refine jr U λb β hb hG=>?_
 refine CT (data:=eH.data) bn.data [st] [((⟨st.1.name,st.1.data⟩,st.2):WB bn)] (λy hy=>?_) ?_
 ·obtain rfl:=bD.1 hy;exact⟨st,bD.2 U,st.1.data.length,U,by rw[bh]⟩
 refine A9 (data:=bn.data) q [((⟨st.1.name,st.1.data⟩,st.2):WB bn)]  ?_
 refine xP ?_
 intro b5
 refine xZ ?_
 intro b7
 refine eD (((⟨st.1.name,st.1.data⟩,st.2):WB bn)) U U U U av U iA iA iA iA iA av λa8 c8=>xS ?_
 exact bO hb (.tmps U) ⟨a8,c8,q++[(⟨st.1.name,st.1.data⟩,st.2)],by simp,U,U⟩
theorem aj8(hn:q.length=n)(st:WB eH):
 TR ab G 447 #[.slice a n c,.int .i64 I,.agg (db st).toArray] [own 70 2 a n c (q.flatMap bG),dz bn.data q] (cb (NY (uR 3 (q.map (·.1)) i st.1))):=by
 subst hn
 refine jr U λb β hb hG=>?_
 refine xP ?_
 intro b5
 exact bO hb (.tmps U) ⟨a,c,q,U,U,U⟩
theorem aj9(hI:I=i)(q:List (WB bn))(hn:q.length=n)(hi:i<n)(hs:n<=1000000000000)(st:WB eH):
 TR ab G 448 #[.slice a n c,.int .i64 I,.agg (db st).toArray] [own 70 2 a n c (q.flatMap bG),dz bn.data q] (cb (NY (uR 4 (q.map (·.1)) i st.1))):=by
 subst hI hn
 refine jr U λb β hb hG=>?_
 have Sk:uR 4 (q.map (·.1)) i st.1=(if dy st.1.uc=false then none else if st.1.uc=st.1.name then some (q.map (·.1))else some (wY (q.map (·.1)) i st.1.uc)):=U
 rw[Sk]
 refine xP ?_
 intro b5
 refine xT 13 ?_ ?_<;>intro h
 ·have h:dy st.1.uc=false:=by grind
  rw[if_pos h];refine xS ?_;exact bO hb (.tmps U) ⟨.slice a q.length c,by grind [lx],U⟩
 ·have h:dy st.1.uc=true:=by grind
  rw[if_neg (by simp[h])];refine xB ?_ ?_<;>intro h2
  ·have h2:st.1.uc=st.1.name:=by grind
   rw[if_pos h2];refine xS ?_;exact bO hb (.tmps U) ⟨a,c,q,U,by grind [lx],U⟩
  ·have h2:¬st.1.uc=st.1.name:=by grind
   rw[if_neg h2];refine gV a av λg hg=>?_;subst hg;refine xS ?_;refine ei hG (mf (e:=70) (c:=c) (vD G _ _ c q st.1.uc U av) (λv B hq=>by obtain⟨_,rfl⟩:=hq;exact inferInstance) U (λ_=>rfl)) U U U aN.es ?_;rintro v B ⟨B',⟨rfl,rfl⟩,rfl⟩;dsimp only[ae,ai,ah];have tV:=@qz (q.map (·.1)) st.1.uc;rw[aA]at tV;refine xS ?_;refine du U U U U U hi (xS ?_);refine HN (bo:=bG) (l:=q) i 0 ((⟨st.1.uc,q[i].1.data⟩,q[i].2):WB bn) (λ_=>rfl) U U U U (λ_=>rfl) av hi de U U ?_;have HU:(q.set i (⟨st.1.uc,q[i].1.data⟩,q[i].2)).map (·.1)=(q.map (·.1)).set i ⟨st.1.uc,(rB (q.map (·.1)) i).data⟩:=by grind [eZ,DQ]
   refine CT (data:=bn.data) bn.data q (q.set i (⟨st.1.uc,q[i].1.data⟩,q[i].2)) (λy hy=>?_) ?_
   ·rcases List.mem_or_eq_of_mem_set hy with h5|rfl
    ·exact bB7
    ·exact⟨q[i],aB hi,q[i].1.data.length,U,by rw[bh]⟩
   have pz:(q.set i (⟨st.1.uc,q[i].1.data⟩,q[i].2)).length=q.length:=gB;generalize q.set i (⟨st.1.uc,q[i].1.data⟩,q[i].2)=q2 at*;refine xB ?_ ?_<;>intro h3
   ·have h3:0<=iH (q.map (·.1)) st.1.uc:=by grind
    have hk:=tV h3;refine xS ?_;refine ei hG (Qb G _ _ c (iH (q.map (·.1)) st.1.uc).toNat _ _ av av q2 pz hk hs) U U U aN.es ?_;rintro v B ⟨a2,c2,rfl,rfl⟩;refine xD ?_;refine rK (data:=bn.data) q2 (q2.eraseIdx (iH (q.map (·.1)) st.1.uc).toNat) (λx hx=>List.mem_of_mem_eraseIdx hx) ?_;exact bO hb (.tmps U) ⟨a2,c2,_,by grind [map_eraseIdx,wY],U,U⟩
   ·have h3:¬0<=iH (q.map (·.1)) st.1.uc:=by grind
    refine xS ?_;rw[<-pz];exact bO hb (.tmps U) ⟨_,c,q2,by grind [wY],U,U⟩
theorem ak0(hI:I=i)(q:List (WB bn))(hn:q.length=n)(hi:i<n)(st:WB eH):
 TR ab G 449 #[.slice a n c,.int .i64 I,.agg (db st).toArray] [own 70 2 a n c (q.flatMap bG),dz bn.data q] (cb (NY (uR 5 (q.map (·.1)) i st.1))):=by
 subst hI hn
 refine jr U λb β hb hG=>?_
 have Sk:uR 5 (q.map (·.1)) i st.1=(if st.1.n<0\/st.1.n>(q[i].1.data.length:Int)then none else some ((q.map (·.1)).set i ⟨q[i].1.name,q[i].1.data.take st.1.n.toNat⟩)):=by rw[<-DQ q i hi];rfl
 rw[Sk]
 refine gV a av λg hg=>?_
 subst hg
 refine oI (data:=bn.data) q q[i] (aB hi) λDb Nk=>?_
 obtain⟨⟨so,sn,st2,sd,sN⟩,sa,sc⟩:=st
 dsimp only at*
 refine xP ?_
 intro b5
 by_cases hneg:sN<0
 ·rw[if_pos (.inl hneg)];refine eR 14 [0] ?_;apply cW [0,1,2,3,4,5,6,7,8,9,10,11,12,13] U U U
  ·intro p hp;refine xS ?_;refine aM 10 true U bE ?_;refine aM 11 true U bE (xS ?_);exact hp
  ·rfl
  ·rfl
  exact aP5
 ·refine eR 14 [2,0] ?_;apply cW [0,1,2,3,4,5,6,7,8,9,10,11,12,13] U U U
  ·intro p hp;refine xS ?_;refine aM 11 false U bE (xS ?_);refine du U U U U U hi (xS ?_);refine HK (bo:=bG) (l:=q) i 1 U U U U (λ_=>rfl) av hi U (xS ?_);exact hp
  ·rfl
  ·rfl
  refine xB ?_ ?_<;>intro h2
  ·have h2:sN>(q[i].1.data.length:Int):=by grind
   rw[if_pos (.inr h2)];exact aP5
  ·have h2:¬sN>(q[i].1.data.length:Int):=by grind
   rw[if_neg av];refine xS ?_;refine fM (uC [0,1,2,3,4,5,6,7,8,9]) [own 70 2 (some ⟨g,0,none⟩) q.length c (q.flatMap bG),bx b5 266 [.int .i64 so,ao sn,ao st2,.slice sa sd.length sc,.int .i64 sN]] U ?_;apply cW [0,1,2,3,4,5,6,7,8,9] U U U
   ·intro p hp;refine xS ?_;refine du U U U U U hi (xS ?_);refine HK (bo:=bG) (l:=q) i 1 U U U U (λ_=>rfl) av hi U (xS ?_);refine CJ (l:=0) (h:=sN.toNat) U U U Bd.no (Bd.at U av) av av ?_;rw[aY0];exact aI7
   ·rfl
   ·rfl
   refine xS ?_;refine du U U U U U hi (xS ?_);have tV:(q[i].1.data.take sN.toNat).length=sN.toNat - 0:=bE;refine HN (bo:=bG) (l:=q) i 1 ((⟨q[i].1.name,q[i].1.data.take sN.toNat⟩,q[i].2):WB bn) (λ_=>by grind) U U U U (λ_=>rfl) av hi de U U ?_;have HU:(q.set i (⟨q[i].1.name,q[i].1.data.take sN.toNat⟩,q[i].2)).map (·.1)=(q.map (·.1)).set i ⟨q[i].1.name,q[i].1.data.take sN.toNat⟩:=by rw[eZ]
   refine CT (data:=bn.data) bn.data q (q.set i (⟨q[i].1.name,q[i].1.data.take sN.toNat⟩,q[i].2)) (λy hy=>?_) ?_
   ·rcases List.mem_or_eq_of_mem_set hy with h5|rfl
    ·exact bB7
    grind
   have pz:(q.set i (⟨q[i].1.name,q[i].1.data.take sN.toNat⟩,q[i].2)).length=q.length:=gB;generalize q.set i (⟨q[i].1.name,q[i].1.data.take sN.toNat⟩,q[i].2)=q2 at*;refine xS ?_;rw[<-pz];exact bO hb (.tmps U) ⟨_,c,q2,HU,U,U⟩
@[reducible] def zK(f:Nat):Value:=.func (.func f) #[] #[]
instance bs6:FJ ab 366 [] [] (.agg #[.bool false,.nilFunc,.bool true,zK 444,.bool false,zK 446,.bool true,zK 447,.bool true,zK 448,.bool true,zK 449]):=⟨λG=>by
 refine Py λb β hb hG=>?_;refine xA ?_;intro b0;refine UX U U iA iA (xS ?_);exact bO hb (.gX U iA .nil) ⟨U,U⟩⟩
def jg(l:List bn)(s:eH):Option (List bn):=
 if s.op<1\/s.op>5\/dy s.name=false then none
 else if(s.op=2↔0<=iH l s.name)then none
 else uR s.op l (iH l s.name).toNat s
theorem ak1(so:Int)(fb:Nat)(h:(so=1/\fb=444)\/(so=2/\fb=446)\/(so=3/\fb=447)\/(so=4/\fb=448)\/(so=5/\fb=449))(a:Option Addr)(n c i:Nat)(I:Int)(hI:so≠2->I=i/\i<n)(q:List (WB bn))(hn:q.length=n)(hs:n<=1000000000000)(st:WB eH):
 ∃_:CF ab fb,TR ab G fb #[.slice a n c,.int .i64 I,.agg (db st).toArray] [own 70 2 a n c (q.flatMap bG),dz bn.data q,dz eH.data [st]] (cb (NY (uR so (q.map (·.1)) i st.1))):=by
 have Af:aN [own 70 2 a n c (q.flatMap bG),dz bn.data q,dz eH.data [st]] [own 70 2 a n c (q.flatMap bG),dz bn.data q]:=ay
 rcases h with⟨rfl,rfl⟩|⟨rfl,rfl⟩|⟨rfl,rfl⟩|⟨rfl,rfl⟩|⟨rfl,rfl⟩
 ·obtain⟨h1,h2⟩:=hI de;exact⟨inferInstance,(aj6 G a n c i I h1 q hn h2 hs st).dH Af λ_ B h=>⟨B,h,aN.refl _⟩⟩
 ·exact⟨inferInstance,aj7 G a n c i I q hn hs st⟩
 ·exact⟨inferInstance,(aj8 G a n c i I q hn st).dH Af λ_ B h=>⟨B,h,aN.refl _⟩⟩
 ·obtain⟨h1,h2⟩:=hI de;exact⟨inferInstance,(aj9 G a n c i I h1 q hn h2 hs st).dH Af λ_ B h=>⟨B,h,aN.refl _⟩⟩
 ·obtain⟨h1,h2⟩:=hI de;exact⟨inferInstance,(ak0 G a n c i I h1 q hn h2 st).dH Af λ_ B h=>⟨B,h,aN.refl _⟩⟩
theorem DR(hn:q.length=n)(hs:n<=1000000000000)(h0:a=none->n=0/\c=0)(st:WB eH):
 TR ab G 264 #[.slice a n c,.agg (db st).toArray] [bV (bp bG) 2 a q,dz bn.data q,dz eH.data [st]] (cb (NY (jg (q.map (·.1)) st.1))):=by
 subst hn
 refine aW U λb β hb hG=>?_
 have tV:=@qz (q.map (·.1)) st.1.name
 rw[aA]at tV
 obtain⟨⟨so,sn,st2,sd,sN⟩,sa,sc⟩:=st
 dsimp only at*
 have hd:jg (q.map (·.1)) ⟨so,sn,st2,sd,sN⟩=if so<1\/so>5\/dy sn=false then none
  else if(so=2↔0<=iH (q.map (·.1)) sn)then none else uR so (q.map (·.1)) (iH (q.map (·.1)) sn).toNat ⟨so,sn,st2,sd,sN⟩:=U
 refine xP ?_
 intro b3
 refine xJ (vD G a _ c q sn U av) ?_
 generalize hK:iH (q.map (·.1)) sn=K at*
 refine xT 15 ?_ ?_<;>intro h1
 ·have h1:so<1:=by grind
  rw[hd,if_pos (.inl h1)];exact aP5
 ·have h1:¬so<1:=by grind
  refine xT 20 ?_ ?_<;>intro h2
  ·have h2:so>5:=by grind
   rw[hd,if_pos (.inr (.inl h2))];exact aP5
  ·have h2:¬so>5:=by grind
   refine xB ?_ ?_<;>intro h3
   ·have h3:dy sn=false:=by grind
    rw[hd,if_pos (.inr (.inr h3))];exact aP5
   ·have h3:dy sn=true:=by grind
    rw[if_neg bE]at hd
    rw[hd]
    clear hd
    refine xS ?_
    obtain⟨fb,th,hth,hfb⟩:∃(fb:Nat) (th:Bool),(th= !decide (so=2))/\((so=1/\fb=444)\/(so=2/\fb=446)\/(so=3/\fb=447)\/(so=4/\fb=448)\/(so=5/\fb=449)):=by
     grind
    refine tU [0,3] [] (ι:=Nat) (λb7 q_=>(6,.int .i64 K)::(7,au b7)::q_) (λb7 q_=>bx b7 491 [.bool th,zK fb]::q_) ?fin ?main
    case main=>
     intro KK dW;refine nR [1,2] [0] ?_;refine xL [1,2] ?_;have ZY:∃j:Nat,so=j/\j<6/\JC (j*2) 2 [.bool false,.nilFunc,.bool true,zK 444,.bool false,zK 446,.bool true,zK 447,.bool true,zK 448,.bool true,zK 449]=some [.bool th,zK fb]:=by
      subst hth;rcases hfb with⟨rfl,rfl⟩|⟨rfl,rfl⟩|⟨rfl,rfl⟩|⟨rfl,rfl⟩|⟨rfl,rfl⟩
      ·exact⟨1,U,by decide,U⟩
      ·exact⟨2,U,by decide,U⟩
      ·exact⟨3,U,by decide,U⟩
      ·exact⟨4,U,by decide,U⟩
      ·exact⟨5,U,by decide,U⟩
     obtain⟨j,hj1,hj2,hj3⟩:=ZY;refine dA U U U U U ?_ ?_
     ·refine xS ?_;refine dA U U U U U ?_ ?_
      ·refine UP U U U U hj1 hj2 hj3  ?_;refine xA ?_;intro b7;exact X.W (dW b7)
      exact ae8
     exact ae8
    case fin=>
     intro b7;refine xS ?_;refine bd5 U U U U  ?_;refine xB ?_ ?_<;>intro h4
     ·have h4:(so=2↔0<=K):=by
       grind
      rw[if_pos h4];exact aP5
     ·have h4:¬(so=2↔0<=K):=by
       grind
      rw[if_neg h4];refine xS ?_;refine nR [0,1,2,4,5] [0,1] ?_;refine xL [0,1,2,4,5] ?_;refine xS ?_;refine bw (Sb G a _ c q U hs h0) ?_;rintro v B ⟨a2,c2,rfl,rfl⟩;refine xD ?_;obtain⟨rH,Sk⟩:=ak1 G so fb hfb a2 _ c2 K.toNat K (by
       omega) q U hs ⟨⟨so,sn,st2,sd,sN⟩,sa,sc⟩
      dsimp only at Sk;generalize uR so (q.map (·.1)) K.toNat ⟨so,sn,st2,sd,sN⟩=r at*;refine gW hG (fst:=[]) (cap:=[]) (us:=[.slice a2 q.length c2,.int .i64 K,.agg (db ⟨⟨so,sn,st2,sd,sN⟩,sa,sc⟩).toArray]) Sk U U U U aN.es ?_;intro v B hq;cases r with
      |none=>
       obtain⟨u,rfl,rfl⟩:=hq;refine xD ?_;refine dA U U U U U ?_ ?_;all_goals
        refine xS ?_
        exact bO hb (.tmps U) ⟨_,U,U⟩
      |some l=>
       obtain⟨a3,c3,q3,hq3,rfl,rfl⟩:=hq;refine xD ?_;refine dA U U U U U ?_ ?_;all_goals
        refine xS ?_
        exact bO hb (.tmps U) ⟨a3,c3,q3,hq3,U,U⟩
end
end Go.Proofs
namespace Go.Proofs
open Go.Shelf
set_option maxRecDepth 8000
def j9:Go.Shelf.Ren:=⟨fun|6=>452|15=>363|14=>486|28=>440|29=>357|20=>501|21=>502|22=>503|23=>504|24=>505|25=>506|26=>507|27=>508|46=>514|47=>480|48=>481|49=>515|50=>516|57=>518|n=>n,fun|22=>416|24=>153|25=>444|3=>3|39=>388|0=>0|53=>139|55=>87|4=>4|46=>552|45=>551|50=>556|5=>5|9=>9|66=>588|70=>425|76=>598|77=>44|n=>n,fun|n=>n⟩
theorem BR:Go.Proofs.SlLaysF0.n6 ab j9:={
 mixed:=cA
 f6:=⟨Tryz.f452.name,by decide,Tryz.func452.trans (congrArg some cA)⟩
 f14:=⟨Tryz.f486.name,by decide,Tryz.func486.trans (congrArg some cA)⟩
 f15:=Tryz.func363.trans (congrArg some cA)
 f20:=⟨Tryz.f501.name,by decide,Tryz.func501.trans (congrArg some cA)⟩
 f21:=⟨Tryz.f502.name,by decide,Tryz.func502.trans (congrArg some cA)⟩
 f22:=⟨Tryz.f503.name,by decide,Tryz.func503.trans (congrArg some cA)⟩
 f23:=⟨Tryz.f504.name,by decide,Tryz.func504.trans (congrArg some cA)⟩
 f24:=⟨Tryz.f505.name,by decide,Tryz.func505.trans (congrArg some cA)⟩
 f25:=⟨Tryz.f506.name,by decide,Tryz.func506.trans (congrArg some cA)⟩
 f26:=⟨Tryz.f507.name,by decide,Tryz.func507.trans (congrArg some cA)⟩
 f27:=⟨Tryz.f508.name,by decide,Tryz.func508.trans (congrArg some cA)⟩
 f28:=Tryz.func440.trans (congrArg some cA)
 f29:=Tryz.func357.trans (congrArg some cA)
 f46:=⟨Tryz.f514.name,by decide,Tryz.func514.trans (congrArg some cA)⟩
 f47:=Tryz.func480.trans (congrArg some cA)
 f48:=Tryz.func481.trans (congrArg some cA)
 f49:=⟨Tryz.f515.name,by decide,Tryz.func515.trans (congrArg some cA)⟩
 f50:=⟨Tryz.f516.name,by decide,Tryz.func516.trans (congrArg some cA)⟩
 f57:=⟨Tryz.f518.name,by decide,Tryz.func518.trans (congrArg some cA)⟩
 t0:=Tryz.underlying0
 a0:=Tryz.isAgg0
 z0:=Tryz.sizeOf0
 v0:=Tryz.zeroValue0
 t3:=ed
 a3:=Tryz.isAgg3
 z3:=Tryz.sizeOf3
 v3:=Tryz.zeroValue3
 t4:=fY
 a4:=Tryz.isAgg4
 z4:=Tryz.sizeOf4
 v4:=Tryz.zeroValue4
 t5:=fX
 a5:=Tryz.isAgg5
 z5:=Tryz.sizeOf5
 v5:=Tryz.zeroValue5
 t9:=cO
 a9:=Tryz.isAgg9
 z9:=Tryz.sizeOf9
 v9:=Tryz.zeroValue9
 t22:=Tryz.underlying416
 a22:=Tryz.isAgg416
 z22:=Tryz.sizeOf416
 v22:=Tryz.zeroValue416
 t25:=Tryz.underlying444
 a25:=Tryz.isAgg444
 z25:=Tryz.sizeOf444
 v25:=Tryz.zeroValue444
 t39:=Tryz.underlying388
 a39:=Tryz.isAgg388
 z39:=Tryz.sizeOf388
 v39:=Tryz.zeroValue388
 t45:=Tryz.underlying551
 a45:=Tryz.isAgg551
 z45:=Tryz.sizeOf551
 v45:=Tryz.zeroValue551
 t46:=Tryz.underlying552
 a46:=Tryz.isAgg552
 z46:=Tryz.sizeOf552
 v46:=Tryz.zeroValue552
 t50:=Tryz.underlying556
 a50:=Tryz.isAgg556
 z50:=Tryz.sizeOf556
 v50:=Tryz.zeroValue556
 t53:=fg
 a53:=Tryz.isAgg139
 z53:=Tryz.sizeOf139
 v53:=Tryz.zeroValue139
 t55:=eO
 a55:=Tryz.isAgg87
 z55:=Tryz.sizeOf87
 v55:=Tryz.zeroValue87
 t66:=Tryz.underlying588
 a66:=Tryz.isAgg588
 z66:=Tryz.sizeOf588
 v66:=Tryz.zeroValue588
 t70:=Tryz.underlying425
 a70:=Tryz.isAgg425
 z70:=Tryz.sizeOf425
 v70:=Tryz.zeroValue425
 t76:=Tryz.underlying598
 a76:=Tryz.isAgg598
 z76:=Tryz.sizeOf598
 v76:=Tryz.zeroValue598
 t77:=Tryz.underlying44
 a77:=Tryz.isAgg44
 z77:=Tryz.sizeOf44
 v77:=Tryz.zeroValue44}
def kb:Go.Shelf.Ren:=⟨fun|6=>285|15=>363|14=>382|28=>440|29=>357|20=>454|21=>455|22=>456|23=>457|24=>458|25=>459|26=>460|27=>461|46=>487|47=>480|48=>481|49=>488|50=>489|57=>509|n=>n,fun|22=>67|24=>70|25=>420|3=>3|39=>388|0=>0|53=>139|55=>87|4=>4|46=>552|45=>551|50=>556|5=>5|9=>9|66=>588|70=>425|76=>598|77=>44|n=>n,fun|n=>n⟩
theorem BP:Go.Proofs.SlLaysF0.n6 ab kb:={
 mixed:=cA
 f6:=⟨Tryz.f285.name,by decide,Tryz.func285.trans (congrArg some cA)⟩
 f14:=⟨Tryz.f382.name,by decide,Tryz.func382.trans (congrArg some cA)⟩
 f15:=Tryz.func363.trans (congrArg some cA)
 f20:=⟨Tryz.f454.name,by decide,Tryz.func454.trans (congrArg some cA)⟩
 f21:=⟨Tryz.f455.name,by decide,Tryz.func455.trans (congrArg some cA)⟩
 f22:=⟨Tryz.f456.name,by decide,Tryz.func456.trans (congrArg some cA)⟩
 f23:=⟨Tryz.f457.name,by decide,Tryz.func457.trans (congrArg some cA)⟩
 f24:=⟨Tryz.f458.name,by decide,Tryz.func458.trans (congrArg some cA)⟩
 f25:=⟨Tryz.f459.name,by decide,Tryz.func459.trans (congrArg some cA)⟩
 f26:=⟨Tryz.f460.name,by decide,Tryz.func460.trans (congrArg some cA)⟩
 f27:=⟨Tryz.f461.name,by decide,Tryz.func461.trans (congrArg some cA)⟩
 f28:=Tryz.func440.trans (congrArg some cA)
 f29:=Tryz.func357.trans (congrArg some cA)
 f46:=⟨Tryz.f487.name,by decide,Tryz.func487.trans (congrArg some cA)⟩
 f47:=Tryz.func480.trans (congrArg some cA)
 f48:=Tryz.func481.trans (congrArg some cA)
 f49:=⟨Tryz.f488.name,by decide,Tryz.func488.trans (congrArg some cA)⟩
 f50:=⟨Tryz.f489.name,by decide,Tryz.func489.trans (congrArg some cA)⟩
 f57:=⟨Tryz.f509.name,by decide,Tryz.func509.trans (congrArg some cA)⟩
 t0:=Tryz.underlying0
 a0:=Tryz.isAgg0
 z0:=Tryz.sizeOf0
 v0:=Tryz.zeroValue0
 t3:=ed
 a3:=Tryz.isAgg3
 z3:=Tryz.sizeOf3
 v3:=Tryz.zeroValue3
 t4:=fY
 a4:=Tryz.isAgg4
 z4:=Tryz.sizeOf4
 v4:=Tryz.zeroValue4
 t5:=fX
 a5:=Tryz.isAgg5
 z5:=Tryz.sizeOf5
 v5:=Tryz.zeroValue5
 t9:=cO
 a9:=Tryz.isAgg9
 z9:=Tryz.sizeOf9
 v9:=Tryz.zeroValue9
 t22:=Tryz.underlying67
 a22:=Tryz.isAgg67
 z22:=Tryz.sizeOf67
 v22:=Tryz.zeroValue67
 t25:=Tryz.underlying420
 a25:=Tryz.isAgg420
 z25:=Tryz.sizeOf420
 v25:=Tryz.zeroValue420
 t39:=Tryz.underlying388
 a39:=Tryz.isAgg388
 z39:=Tryz.sizeOf388
 v39:=Tryz.zeroValue388
 t45:=Tryz.underlying551
 a45:=Tryz.isAgg551
 z45:=Tryz.sizeOf551
 v45:=Tryz.zeroValue551
 t46:=Tryz.underlying552
 a46:=Tryz.isAgg552
 z46:=Tryz.sizeOf552
 v46:=Tryz.zeroValue552
 t50:=Tryz.underlying556
 a50:=Tryz.isAgg556
 z50:=Tryz.sizeOf556
 v50:=Tryz.zeroValue556
 t53:=fg
 a53:=Tryz.isAgg139
 z53:=Tryz.sizeOf139
 v53:=Tryz.zeroValue139
 t55:=eO
 a55:=Tryz.isAgg87
 z55:=Tryz.sizeOf87
 v55:=Tryz.zeroValue87
 t66:=Tryz.underlying588
 a66:=Tryz.isAgg588
 z66:=Tryz.sizeOf588
 v66:=Tryz.zeroValue588
 t70:=Tryz.underlying425
 a70:=Tryz.isAgg425
 z70:=Tryz.sizeOf425
 v70:=Tryz.zeroValue425
 t76:=Tryz.underlying598
 a76:=Tryz.isAgg598
 z76:=Tryz.sizeOf598
 v76:=Tryz.zeroValue598
 t77:=Tryz.underlying44
 a77:=Tryz.isAgg44
 z77:=Tryz.sizeOf44
 v77:=Tryz.zeroValue44}
end Go.Proofs
namespace Go.Proofs
open Go.Sl
set_option maxRecDepth 8000
section
variable{cc:Option (Array Oper×List Oper)}{R:Ending->List az->Prop}{k:Bs}{b:Frame}{α:Type}{Hs F:List az}{E:Env}{β:bS}(K:Nat)(G:bZ)(D:Nat)(a:Option Addr)(f:Nat)(cap:List Value)(A:List az)
theorem FV[CF ab f](uD tX:List Place->Prop)(hit:z7 ab G f cap A (λk:Place=>[Place.v k]) uD tX)(hl:∀p,uD p->p.length<=1000000000000):
 TR ab G 485 #[.slice none 0 0,.func (.func f) #[] cap.toArray] [cV A] (cb λv B=>∃ys,tX ys/\∃a c,v=.slice a ys.length c/\B=[own 153 3 a ys.length c (ys.flatMap Place.cs),cV A]):=by
 refine aW U λb β hb hG=>xS ?_
 refine X.box U U U U λb2=>?_
 refine A7 Place.cs 153 3 b2 U (xS ?_)
 refine Gh hG hb hit.cV U (λpre=>[lE Place.cs 153 3 416 b2 pre]) [lE Place.cs 153 3 416 b2 []] U (λ_=>rfl) de ?_ ?_
 ·intro b' β' l' r pre x hx lC yy hr;have tJ:=hl _ hx;rw[aG,List.length_singleton]at tJ;refine xA ?_;intro b5;refine qg lC hr (xS ?_);refine mh Place.cs 153 3 416 b2 λa6 c6=>?_;refine xZ ?_;intro b7;refine eD (x) U U U U av U iA iA iA iA iA av λa8 c8=>xS ?_;refine tD Place.cs 153 3 416 b2 (pre++[x]) U ?_;exact ll lC
 ·intro D ys yz;dsimp only[ae,ai,ah];refine mh Place.cs 153 3 416 b2 λa6 c6=>xS ?_;exact aM4
theorem KP[CF ab f](uD tX:List Place->Prop)(hit:z7 ab G f cap A (λk:Place=>[Place.v k]) uD tX)(hl:∀p,uD p->p.length<=1000000000000):
 TR ab G 451 #[.func (.func f) #[] cap.toArray] [cV A] (cb λv B=>∃ys,tX ys/\∃a c,v=.slice a ys.length c/\B=[own 153 3 a ys.length c (ys.flatMap Place.cs),cV A]):=by
 refine cg U λb β hb hG=>xS ?_
 refine bw (FV G f cap A uD tX hit hl) ?_
 rintro v B ⟨ys,yz,a,c,rfl,rfl⟩
 refine xD ?_
 exact bO hb (.tmps U) ⟨ys,yz,a,c,U,U⟩
structure Seen where
 key:Bs
 eB:UInt64
 kind:Int
 place:Place
 open_:Bool
 body:Bs
deriving DecidableEq
@[reducible] def Seen.cs(s:Seen):List Value:=[ao s.key,.int .u64 s.eB.toNat,.int .i64 s.kind,.int .u32 s.place.qK.toNat,.int .i64 s.place.at_,.int .i64 s.place.len,.bool s.open_,ao s.body]
@[reducible] def Seen.zero:Seen:=⟨[],0,0,⟨0,0,0⟩,false,[]⟩
def Ao(s:Seen):Bs:=([cu s.kind.toNat]++eX [s.eB])++(if s.kind=1 then eX [iB s.key.length]else[])++s.key
theorem ak4(s:Seen)(hk:0<=s.kind)(hl:s.key.length<=1000000000000):TR ab G 401 #[.agg s.cs.toArray] [] (cT (ao (Ao s))):=by
 refine cg U λb β hb hG=>?_;refine xP ?_;intro b1;have v9:=jM [s.eB];have v10:=jM [iB s.key.length];simp only[ax,aR]at v9 v10;refine tU [1,2] [] (ι:=Option Addr×Nat) (λq q_=>(3,.slice q.1 ([cu s.kind.toNat]++eX [s.eB]).length q.2)::q_) (λq q_=>own 5 1 q.1 ([cu s.kind.toNat]++eX [s.eB]).length q.2 (([cu s.kind.toNat]++eX [s.eB]).map fO)::q_) (λq=>?_) (λK fin=>?_)
 ·obtain⟨a,c⟩:=q;dsimp only;generalize hv9:[cu s.kind.toNat]++eX [s.eB]=w9;have hw9:w9.length<=11:=bE;have e0:Ao s=w9++(if s.kind=1 then eX [iB s.key.length]else[])++s.key:=by subst hv9;rfl
  refine xB ?_ ?_<;>intro h1
  ·have h1:s.kind=1:=by grind
   rw[if_pos h1]at e0;refine xS ?_;rw[kU _ av];refine xZ ?_;intro b20;refine iu b20 (λx=>[rQ x]) [iB s.key.length] U (λ_=>rfl) ?_;refine bw (mP G _ 1 1 [iB s.key.length] U av) ?_;rintro _ _ ⟨a20,c20,rfl,rfl⟩;refine xD ?_;refine iE a20 U λh20=>?_;generalize hv20:eX [iB s.key.length]=w20 at*;refine iw U U U U U av λZ0 c30=>xS ?_;refine iE Z0 U λh30=>xS ?_;exact bO hb (.tmps U) ⟨by rw[e0];rfl,U⟩
  ·have h1:¬s.kind=1:=by grind
   rw[if_neg h1,ah]at e0;refine xS ?_;refine iE a U λh30=>xS ?_;exact bO hb (.tmps U) ⟨by rw[e0];rfl,U⟩
 ·refine nR [0,1,2,4,5] [0] ?_;refine xL [0,1,2,4,5] ?_;rw[H9 _ hk];refine dA U U U U U ?_ ?_
  ·refine xZ ?_;intro b7;refine xZ ?_;intro rR;exact bh4
  ·refine xZ ?_;intro rR;refine dA U U U U U ?_ ?_
   ·refine xZ ?_;intro b7;exact bh4
   ·refine iu rR (λx=>[rQ x]) [s.eB] U (λ_=>rfl) ?_;refine bw (mP G _ 1 1 [s.eB] U av) ?_;rintro _ _ ⟨VG,c10,rfl,rfl⟩;refine xD ?_;refine xZ ?_;intro b7;exact bE7
def Ap(s:Seen)(body:Bs):Bool:=(kX body (Ao s)).2&&decide ((kX body (Ao s)).1.length<=2048)&&(s.kind==1||(kX body (Ao s)).1==[])
theorem Qe(s:Seen)(body:Bs)(hk:0<=s.kind)(hl:s.key.length<=1000000000000):TR ab G 315 #[.agg s.cs.toArray,ao body] [] (cT (.bool (Ap s body))):=by
 refine aW U λb β hb hG=>?_;refine xP ?_;intro b2;refine xJ (ak4 G s hk hl) ?_;unfold Ap;generalize Ao s=h at*;refine xS ?_;generalize kX body h=q at*;refine xT 15 ?_ ?_<;>intro h1
 ·refine xT 20 ?_ ?_<;>intro h2
  ·refine xT 24 ?_ ?_<;>intro h3
   ·exact Yu
   ·exact Yu
  ·have h2:¬q.1.length<=2048:=by grind
   exact ad6
 ·exact ad6
def Seen.may(s:Seen):Bool:=
 if s.key.length<1\/64<s.key.length\/s.eB=0\/(s.kind≠1/\s.kind≠2)then false
 else if s.place.qK=0\/s.place.at_<0\/s.place.len<1 then false
 else if s.open_=true then Ap s s.body else s.body==[]
theorem aZ5(s:Seen):TR ab G 212 #[.agg s.cs.toArray] [] (cT (.bool s.may)):=by
 refine cg U λb β hb hG=>?_;refine xP ?_;intro b1;refine xA ?_;intro b3;have bad:∀{N vs k Hs},s.may=false->lk vs 2=some (.bool false)->X ab b β none (.it (.code .ret::k)) ⟨N,vs,[]⟩ Hs (cT (.bool s.may)):=by
  intro N vs k Hs he h1;exact bO hb (.tmp h1 .nil) ⟨by rw[he];rfl,U⟩
 have e1:¬(s.key.length<1\/64<s.key.length\/s.eB=0\/(s.kind≠1/\s.kind≠2))->s.may=if s.place.qK=0\/s.place.at_<0\/s.place.len<1 then false else if s.open_=true then Ap s s.body else s.body==[]:=by grind [Seen.may]
 have e2:(s.key.length<1\/64<s.key.length\/s.eB=0\/(s.kind≠1/\s.kind≠2))->s.may=false:=by grind [Seen.may]
 have hls:s.eB.toNat=0↔s.eB=0:=⟨λh=>gL.1 (by rw[h];rfl),λh=>by rw[h];rfl⟩;have hsg:s.place.qK.toNat=0↔s.place.qK=0:=⟨λh=>dM.1 (by rw[h];rfl),λh=>by rw[h];rfl⟩;refine ab0 (ι:={t:Bool // t=decide (s.key.length<1\/64<s.key.length\/s.eB=0\/(s.kind≠1/\s.kind≠2))}) (λt=>([(1,au b1),(3,au b3),(6,.bool t.1)],[bx b1 155 s.cs,bx b3 153 s.place.cs])) (λt=>?_) (λK fin=>?_)
 ·obtain⟨t,ht⟩:=t;dsimp only;refine xB ?_ ?_<;>intro h0
  ·have h0:t=true:=h0;subst h0;refine xS ?_;exact bad (e2 bE) U
  ·have h0:t=false:=h0;subst h0;have hc:¬(s.key.length<1\/64<s.key.length\/s.eB=0\/(s.kind≠1/\s.kind≠2)):=of_decide_eq_false ht.symm;have e1:=e1 hc;have hk2:s.kind=1\/s.kind=2:=av;have hk0:0<=s.kind:=av;have Ud:s.key.length<=1000000000000:=av;refine xT 36 ?_ ?_<;>intro g1
   ·rw[if_pos (.inl (hsg.1 bE))]at e1;refine xS ?_;exact bad e1 U
   ·have g1:¬s.place.qK=0:=by grind
    refine xT 41 ?_ ?_<;>intro g2
    ·rw[if_pos (.inr (.inl bE))]at e1;refine xS ?_;exact bad e1 U
    ·have g2:¬s.place.at_<0:=by grind
     refine xB ?_ ?_<;>intro g3
     ·rw[if_pos (.inr (.inr bE))]at e1;refine xS ?_;exact bad e1 U
     ·have g3:¬s.place.len<1:=by grind
      rw[if_neg bE]at e1;refine xB ?_ ?_<;>intro g4
      ·rw[if_pos g4]at e1;refine xJ (Qe G s s.body hk0 Ud) ?_;exact bO hb (.tmps U) ⟨by rw[e1];rfl,U⟩
      ·rw[if_neg (by simp[g4])]at e1;refine xS ?_;exact bO hb (.tmps U) ⟨by rw[e1];rfl,U⟩
 ·have go:∀{vs:List (Nat×Value)} {Hs F:List az} (t:Bool),t=decide (s.key.length<1\/64<s.key.length\/s.eB=0\/(s.kind≠1/\s.kind≠2))->lk vs 1=some (au b1)->lk vs 3=some (au b3)->lk vs 6=some (.bool t)->ES Hs [bx b1 155 s.cs,bx b3 153 s.place.cs] F->X ab b β none (.it K) ⟨56,vs,[]⟩ Hs (cT (.bool s.may)):=by
   intro vs Hs F t h1 h2 h3 h4 h5;exact X.less (fin ⟨t,h1⟩) (s3_ h2 h3 h4) ay
  refine xT 11 ?_ ?_<;>intro h1
  ·exact aJ2
  ·have h1:¬s.key.length<1:=by grind
   refine xT 17 ?_ ?_<;>intro h2
   ·exact aJ2
   ·have h2:¬64<s.key.length:=by grind
    refine xT 22 ?_ ?_<;>intro h3
    ·exact aJ2
    ·have h3:¬s.eB=0:=by grind
     refine xT 26 ?_ ?_<;>intro h4
     ·have h4:s.kind≠1:=by grind
      refine xS ?_;exact go (s.kind !=2) bE U U U inferInstance
     ·have h4:s.kind=1:=by grind
      refine xS ?_;exact go false bE U U U inferInstance
@[reducible] def Seen.spot(s:Seen):Seen:=⟨s.key,s.eB,s.kind,s.place,false,[]⟩
theorem Qf(s:Seen):TR ab G 317 #[.agg s.cs.toArray] [] (cT (.agg s.spot.cs.toArray)):=by
 refine cg U λb β hb hG=>?_;refine xP ?_;intro b1;refine xA ?_;intro b2;exact bO hb (.gX U U .nil) ⟨U,U⟩
theorem aZ6(o s:Seen):((o.key==s.key)&&(((o.eB.toNat:Int)==s.eB.toNat)&&((o.kind==s.kind)&&((((o.place.qK.toNat:Int)==s.place.qK.toNat)&&((o.place.at_==s.place.at_)&&(o.place.len==s.place.len)))&&((false==false)&&(([]:Bs)==[]))))))=decide (o.spot=s.spot):=by
 obtain⟨k1,l1,q1,⟨p1,p2,p3⟩,_,_⟩:=o
 obtain⟨k2,l2,q2,⟨r1,r2,r3⟩,_,_⟩:=s
 grind [gL,dM]
def Seen.same(o s:Seen):Bool:=decide (o.spot=s.spot)&&(!o.open_|| !s.open_||o.body==s.body)
theorem ak5(o s:Seen)(b1:Nat):TR ab G 316 #[.agg o.cs.toArray,au b1] [bx b1 155 s.cs] (cb λv B=>v=.bool (o.same s)/\B=[bx b1 155 s.cs]):=by
 refine aW U λb β hb hG=>?_
 refine xP ?_
 intro b2
 have he:=aZ6 o s
 unfold Seen.same
 refine nR [0,2,4,5,6,7,8,9,10,11,12,13,14,15,16,17,18,19,20,21] [0,1] ?_
 refine xL [0,2] ?_
 refine xJ (Qf G o) ?_
 refine vn hG (Qf G s) U U U ?_
 refine X.go 1 U U ?_
 refine X.sw ?_
 by_cases h1:o.spot=s.spot
 ·have he:=he.trans (decide_eq_true h1)
  rw[decide_eq_true h1,Bool.true_and]
  by_cases h2:o.open_=true
  ·by_cases h3:s.open_=true
   ·apply cW [4,5,6,7,8,9,10,11,12,13,14,15,16,17,18,19,20,21] U U U
    ·intro p hp
     refine xS ?_
     refine aM 9 true U he (xS ?_)
     refine aM 13 false U (by simp[h2]) (xS ?_)
     refine aM 18 false U (by simp[h3]) (xS ?_)
     exact hp
    ·rfl
    ·rfl
    refine xS ?_
    exact X.ret hb (.tmps U) ⟨[bx b1 155 s.cs],⟨by grind [lx],U⟩,ay⟩
   ·apply cW [4,5,6,7,8,9,10,11,12,13,14,15,16,17,18,19,20,21] U U U
    ·intro p hp
     refine xS ?_
     refine aM 9 true U he (xS ?_)
     refine aM 13 false U (by simp[h2]) (xS ?_)
     refine aM 18 true U (by simp[h3]) (xS ?_)
     exact hp
    ·rfl
    ·rfl
    refine xS ?_
    exact X.ret hb (.tmps U) ⟨[bx b1 155 s.cs],⟨by grind [lx],U⟩,ay⟩
  ·apply cW [4,5,6,7,8,9,10,11,12,13,14,15,16,17,18,19,20,21] U U U
   ·intro p hp
    refine xS ?_
    refine aM 9 true U he (xS ?_)
    refine aM 13 true U (by simp[h2]) (xS ?_)
    exact hp
   ·rfl
   ·rfl
   refine xS ?_
   exact X.ret hb (.tmps U) ⟨[bx b1 155 s.cs],⟨by simp[lx,h2],U⟩,ay⟩
 ·have he:=he.trans (decide_eq_false h1)
  rw[decide_eq_false h1,ab6]
  apply cW [4,5,6,7,8,9,10,11,12,13,14,15,16,17,18,19,20,21] U U U
  ·intro p hp
   refine xS ?_
   refine aM 9 false U he (xS ?_)
   exact hp
  ·rfl
  ·rfl
  refine xS ?_
  exact X.ret hb (.tmps U) ⟨[bx b1 155 s.cs],⟨U,U⟩,ay⟩
def Im(p q:Seen):Int:=Ub [mY p.eB.toNat q.eB.toNat,JT p.body q.body,sL q.place p.place]
theorem N0(p q:Seen):TR ab G 216 #[.agg p.cs.toArray,.agg q.cs.toArray] [] (cT (aX (Im p q))):=by
 refine aW U λb β hb hG=>xS ?_;refine X.box U U U U λb1=>?_;refine xP ?_;intro b2;refine nR [0,1,2,3,5,6,7,8,10,11,12,13] [1,0] ?_;refine xL [0,1,2,3,5,6,7,8,10,11,12,13] ?_;refine xJ (Da G q.place p.place) ?_;refine xZ ?_;intro b3;refine iu b3 (λx=>[aX x]) [mY p.eB.toNat q.eB.toNat,JT p.body q.body,sL q.place p.place] U (λ_=>rfl) ?_;refine xJ (Vs G _ _ _ [mY p.eB.toNat q.eB.toNat,JT p.body q.body,sL q.place p.place] U nH) ?_;exact xR
theorem DS(n c:Nat)(xs:List Seen)(fd:Nat)[CF ab fd](fst cap:List Value)(S:az)(p:Seen->Bool)(Fy:∀x∈xs,TR ab G fd (fst++[gn x.cs.toArray]++cap).toArray [S] (cb λv B=>v=.bool (p x)/\B=[S]))(hn:xs.length=n)(hs:n<=1099511627776):
 TR ab G 314 #[.slice a n c,.func (.func fd) fst.toArray cap.toArray] [bV (bp Seen.cs) 8 a xs,S] (cb λv B=>v=aX (cy p 0 xs)/\B=[S]):=by
 refine aW U λb β hb hG=>xS ?_
 refine eT [0,1] [] (ι:={i:Nat // i<=n/\cy p 0 xs=cy p i (xs.drop i)}) (λi q_=>(7,aX n)::(8,aX i.1)::q_) (λi q_=>q_) (λi=>n - i.1) ⟨0,al _,U⟩ ?_
 rintro⟨i,hi,hE⟩ ih
 dsimp only
 refine xB ?_ ?_<;>intro h
 ·have hi:i<xs.length:=by grind
  refine xS ?_;refine cH U U U U U hi hn λbl o=>?_;rw[jt _ xs i hi]at hE;have iq:xs[i]∈xs:=aB hi;generalize xs[i]=x at*;refine xS ?_;refine dF U U U U (xS ?_);refine gW (fst:=fst) (us:=[gn x.cs.toArray]) (cap:=cap) hG (Fy x iq) U U U U aN.es ?_;exact bw9
 ·exact bg3
theorem KS(n c:Nat)(xs:List Seen)(fd:Nat)[CF ab fd](fst cap:List Value)(S:az)(p:Seen->Bool)(Fy:∀x∈xs,TR ab G fd (fst++[gn x.cs.toArray]++cap).toArray [S] (cb λv B=>v=.bool (p x)/\B=[S]))(hn:xs.length=n)(hs:n<=1099511627776):
 TR ab G 210 #[.slice a n c,.func (.func fd) fst.toArray cap.toArray] [bV (bp Seen.cs) 8 a xs,S] (cb λv B=>v=.bool (xs.any p)/\B=[S]):=by
 refine aW U λb β hb hG=>?_
 refine xE (DS G a n c xs fd fst cap S p Fy hn hs) ?_
 exact bO hb (.tmps U) ⟨by grind [lx,yF],U⟩
theorem Sm(s:Seen):TR ab G 211 #[.agg s.cs.toArray] [] (cT (.bool (!s.may))):=by
 refine cg U λb β hb hG=>?_;refine xP ?_;intro b1;refine xJ (aZ5 G s) ?_;exact xR
instance:wO ab 235 (.slice none 0 0):=⟨by kernel_rfl⟩
abbrev Aq:=(Option Addr×Nat)×List Seen
abbrev rZ:=List (Bs×Aq)
@[reducible] def vZ(e:Aq):Value:=.slice e.1.1 e.2.length e.1.2
@[reducible] def jA(fs:rZ):List (Bs×Value):=fs.map λx=>(x.1,vZ x.2)
def kE(e:Aq):az:=own 155 8 e.1.1 e.2.length e.1.2 (e.2.flatMap Seen.cs)
def kA(x:Bs×Aq):az:=kE x.2
abbrev dR:=List (Bs×List Seen)
def FW(fs:rZ):dR:=fs.map λx=>(x.1,x.2.2)
def mZ(fs:rZ)(k:Bs):Aq:=((fs.find? (·.1=k)).map (·.2)).getD ((none,0),[])
def jN{α:Type}(fs:List (Bs×α))(k:Bs):List (Bs×α):=fs.filter λx=> !(x.1==k)
def yV(fs:rZ)(k:Bs)(e:Aq):rZ:=
 match fs.findIdx? (·.1=k)with
 |some i=>fs.set i (k,e)
 |none=>fs++[(k,e)]
def kQ(d:dR)(k:Bs):List Seen:=((d.find? (·.1=k)).map (·.2)).getD []
def FX(d:dR)(k:Bs)(l:List Seen):dR:=(k,l)::jN d k
def dI(d:dR):Nat:=(d.map λx=>x.2.length).sum
structure dR.ok(d:dR):Prop where
 nd:(d.map (·.1)).Nodup
 may:∀x∈d,∀s∈x.2,s.key=x.1/\s.may=true
 ne:∀x∈d,x.2≠[]
theorem yW:∀(d:dR),(∀x∈d,x.2≠[])->d.length<=dI d
 |[],_=>ar _
 |x::r,h=>by
  have h1:=yW r λy hy=>h y U8;have h2:0<x.2.length:=fy.2 (h x nH);have h3:dI (x::r)=x.2.length+dI r:=by unfold dI;simp
  exact aJ4
def gS(K:Nat)(d:dR):az:=ex λq:Nat×rZ=>[pu ((FW q.2).Perm d/\d.ok),bx K 234 [.map (some q.1)],mp ao q.1 (jA q.2),cV (q.2.map kA)]
theorem Ar(fs:rZ)(k:Bs):(fB (jA fs) k).getD (.slice none 0 0)=vZ (mZ fs k):=by
 unfold fB mZ;induction fs<;>grind
theorem KT(fs:rZ)(k:Bs):kQ (FW fs) k=(mZ fs k).2:=by
 unfold kQ mZ FW;induction fs<;>grind
theorem Sn(fs:rZ)(k:Bs)(e:Aq):gJ (jA fs) k (vZ e)=jA (yV fs k e):=by
 unfold gJ yV
 have h:(jA fs).findIdx? (λx=>x.1=k)=fs.findIdx? (λx=>x.1=k):=by
  rw[jA,List.findIdx?_map];rfl
 grind [eZ]
theorem lK{fs:List (Bs×α)}(h:k∉fs.map (·.1)):jN fs k=fs:=by
 grind [jN,List.filter_eq_self]
theorem mG{α:Type}{k:Bs}:∀{fs:List (Bs×α)},k∈fs.map (·.1)->∃pre y post,fs=pre++(k,y)::post/\k∉pre.map (·.1)
 |[],h=>by cases h
 |x::r,h=>by
  by_cases hx:x.1=k
  ·exact⟨[],x.2,r,by rw[<-hx];rfl,by simp⟩
  ·have h2:k∈r.map (·.1):=by
    grind
   obtain⟨pre,y,post,h3,h4⟩:=mG h2
   grind
theorem q8{pre post:List (Bs×α)}{y:α}(jd:((pre++(k,y)::post).map (·.1)).Nodup):jN (pre++(k,y)::post) k=pre++post:=by
 rw[cq,aK,eP,gA]at jd
 have h1:jN pre k=pre:=by grind [lK]
 have h2:jN post k=post:=lK jd.2.1.1
 grind [jN]
theorem As{fs:rZ}(h:k∉fs.map (·.1)):mZ fs k=((none,0),[]):=by
 grind [mZ]
theorem DT{fs:rZ}(jd:(fs.map (·.1)).Nodup)(h:k∈fs.map (·.1)):fs.Perm ((k,mZ fs k)::jN fs k):=by
 obtain⟨pre,y,post,rfl,h2⟩:=mG h
 grind [mZ,q8]
theorem GL{fs:rZ}(e:Aq)(jd:(fs.map (·.1)).Nodup):(yV fs k e).Perm ((k,e)::jN fs k):=by
 unfold yV
 by_cases h:k∈fs.map (·.1)
 ·obtain⟨pre,y,post,rfl,h2⟩:=mG h
  have h3:(pre++(k,y)::post).findIdx? (λx=>x.1=k)=some pre.length:=by
   grind
  grind [q8]
 grind [lK]
theorem Q4{fs:rZ}(jd:(fs.map (·.1)).Nodup)(F:List az):aN (cV (fs.map kA)::F) (kE (mZ fs k)::cV ((jN fs k).map kA)::F):=by
 by_cases h:k∈fs.map (·.1)
 ·refine(gG _ F).trans ?_;refine(iQ (di ((DT jd h).map kA)) F).trans ?_;exact aN.cons _ (gp _ F)
 ·rw[As h,lK h];exact ej 155 8 _
theorem ME{fs:rZ}(jd:(fs.map (·.1)).Nodup)(F:List az):aN (kE (mZ fs k)::cV ((jN fs k).map kA)::F) (cV (fs.map kA)::F):=by
 by_cases h:k∈fs.map (·.1)
 ·refine(aN.cons _ (gG _ F)).trans ?_;refine(iQ (B:=fs.map kA) (di ((DT jd h).map kA).symm) F).trans ?_;exact gp _ F
 ·rw[As h,lK h];exact aN.drop _ _
theorem QX{fs:rZ}(e:Aq)(jd:(fs.map (·.1)).Nodup)(F:List az):aN (kE e::cV ((jN fs k).map kA)::F) (cV ((yV fs k e).map kA)::F):=by
 refine(aN.cons _ (gG _ F)).trans ?_;refine(iQ (B:=(yV fs k e).map kA) (di ((GL e jd).map kA).symm) F).trans ?_;exact gp _ F
theorem DU(fs:rZ):(FW fs).map (·.1)=fs.map (·.1):=by simp[FW,Function.comp_def]
theorem Sp(fs:rZ)(k:Bs):FW (jN fs k)=jN (FW fs) k:=by
 unfold FW jN;rw[List.filter_map];rfl
theorem KU{d d':List (Bs×α)}(h:d.Perm d')(k:Bs):(jN d k).Perm (jN d' k):=h.filter _
theorem GN{d d':dR}(h:d.Perm d')(jd:(d'.map (·.1)).Nodup)(k:Bs):kQ d k=kQ d' k:=by
 have hnd1:(d.map (·.1)).Nodup:=(h.map _).nodup_iff.2 jd
 unfold kQ
 by_cases hk:k∈d.map (·.1)
 ·obtain⟨pre,y,post,rfl,h2⟩:=mG hk
  have hm:(k,y)∈d':=h.mem_iff.1 nH
  obtain⟨pre',post',rfl⟩:=List.append_of_mem hm
  grind
 grind [List.find?_eq_none]
theorem KV{fs:rZ}{d:dR}(e:Aq)(h:(FW fs).Perm d)(jd:(fs.map (·.1)).Nodup):(FW (yV fs k e)).Perm (FX d k e.2):=by
 have h1:=(GL (k:=k) e jd).map λx=>(x.1,x.2.2);refine List.Perm.trans h1 ?_;rw[aK];refine fS _ ?_;have h2:=KU h k;rw[<-Sp]at h2;exact h2
theorem Au(d:List (Bs×α))(k:Bs):(jN d k).Sublist d:=List.filter_sublist
theorem Sq(d:List (Bs×α))(k:Bs):k∉(jN d k).map (·.1):=by
 intro h
 obtain⟨x,hx,hk⟩:=bj.1 h
 have:=(dZ.1 hx).2
 grind
theorem dR.ok.put{d:dR}(h:d.ok)(k:Bs)(l:List Seen)(hl:∀s∈l,s.key=k/\s.may=true)(me:l≠[]):(FX d k l).ok:=by
 refine⟨?_,?_,?_⟩
 ·rw[FX,aK,gA];exact⟨Sq d k,h.nd.sublist ((Au d k).map _)⟩
 ·intro x hx;rcases bK.1 hx with rfl|hx
  ·exact hl
  ·exact h.may x ((Au d k).subset hx)
 ·intro x hx;rcases bK.1 hx with rfl|hx
  ·exact me
  ·exact h.ne x ((Au d k).subset hx)
theorem dR.ok.get{d:dR}(h:d.ok)(k:Bs):∀s∈kQ d k,s.key=k/\s.may=true:=by
 intro s hs;unfold kQ at hs;cases hf:d.find? (·.1=k)with
 |none=>grind
 |some x=>
  rw[hf]at hs
  have h1:=Y hf
  have h2:=List.find?_some hf
  have h3:x.1=k:=bE
  have:=h.may x h1 s hs
  grind
theorem Sr{d d':dR}(h:d.Perm d'):dI d=dI d':=(h.map _).sum_nat
theorem r6(d:dR)(k:Bs)(jd:(d.map (·.1)).Nodup):(kQ d k).length+dI (jN d k)=dI d:=by
 by_cases hk:k∈d.map (·.1)
 ·obtain⟨pre,y,post,rfl,h2⟩:=mG hk
  grind [q8,kQ,dI]
 grind [lK,kQ,List.find?_eq_none]
theorem zP{k:Kt}{d:dR}[hf:FK Hs gS K d F](h:∀(M:Nat) (fs:rZ),(FW fs).Perm d->d.ok->(fs.map (·.1)).Nodup->X ab b β cc k E (bx K 234 [.map (some M)]::mp ao M (jA fs)::cV (fs.map kA)::F) R):X ab b β cc k E Hs R:=
 jo λw hs=>by
  obtain⟨⟨M,fs⟩,h1⟩:=iX (hs.cd hf.out)
  obtain⟨⟨hp,dp⟩,h2⟩:=ln h1
  refine⟨_,h2,h M fs hp dp ?_⟩
  have:=((hp.map (·.1)).nodup_iff.2 dp.nd)
  grind [DU]
theorem ak6{K M:Nat}{d:dR}{fs:rZ}(hp:(FW fs).Perm d)(dp:d.ok)(F:List az):aN (bx K 234 [.map (some M)]::mp ao M (jA fs)::cV (fs.map kA)::F) (gS K d::F):=
 (dY ⟨hp,dp⟩ _).trans (gU (f:=λq:Nat×rZ=>[pu ((FW q.2).Perm d/\d.ok),bx K 234 [.map (some q.1)],mp ao q.1 (jA q.2),cV (q.2.map kA)]) (M,fs) F)
theorem wF{k:Kt}(M:Nat)(fs:rZ){d:dR}(hp:(FW fs).Perm d)(dp:d.ok)[hE:ES Hs [bx K 234 [.map (some M)],mp ao M (jA fs),cV (fs.map kA)] F](h:X ab b β cc k E (gS K d::F) R):X ab b β cc k E Hs R:=
 X.cd (hE.out.trans (ak6 hp dp F)) h
def mc(l:List Seen)(s:Seen):List Seen:=
 let i:=cy (λo=>o.same s) 0 l
 if i<0 then l++[s]else if s.open_=true then l.set i.toNat s else l
def dR.take(d:dR)(s:Seen):dR:=FX d s.key (mc (kQ d s.key) s)
theorem DV(l:List Seen)(s:Seen)(k:Bs)(hl:∀x∈l,x.key=k/\x.may=true)(hs:s.key=k/\s.may=true):∀x∈mc l s,x.key=k/\x.may=true:=by
 grind [mc]
theorem GO(l:List Seen)(s:Seen):mc l s≠[]:=by
 unfold mc
 dsimp only
 split
 ·simp
 grind [cy,gB]
theorem dR.ok.take{d:dR}(h:d.ok){s:Seen}(hs:s.may=true):(d.take s).ok:=h.put _ _ (DV _ _ _ (h.get _) ⟨U,hs⟩) (GO _ _)
theorem N1(l:List Seen)(s:Seen):(mc l s).length<=l.length+1:=by
 grind [mc]
theorem HL{d:dR}(h:d.ok)(s:Seen):dI (d.take s)<=dI d+1:=by
 have h1:=r6 d s.key h.nd
 grind [dI,mc,dR.take,FX]
theorem KW{α:Type}(p:α->Bool):∀(l:List α) (i:Nat),cy p i l<0\/∃j:Nat,cy p i l=j/\i<=j/\j<i+l.length
 |[],i=>by grind [cy]
 |x::r,i=>by
  unfold cy
  split
  ·grind
  ·rcases KW p r (i+1)with h|⟨j,h1,h2,h3⟩;all_goals grind
theorem Ce{k:Kt}(fs:rZ)(key:Bs)(jd:(fs.map (·.1)).Nodup)[hf:FP Hs (cV (fs.map kA)) F](h:X ab b β cc k E (own 155 8 (mZ fs key).1.1 (mZ fs key).2.length (mZ fs key).1.2 ((mZ fs key).2.flatMap Seen.cs)::cV ((jN fs key).map kA)::F) R):X ab b β cc k E Hs R:=
 X.cd (hf.out.trans (Q4 jd F)) h
theorem x9{k:Kt}(fs:rZ)(key:Bs)(jd:(fs.map (·.1)).Nodup){a:Option Addr}{c:Nat}{l:List Seen}(he:mZ fs key=((a,c),l))[hE:ES Hs [own 155 8 a l.length c (l.flatMap Seen.cs),cV ((jN fs key).map kA)] F](h:X ab b β cc k E (cV (fs.map kA)::F) R):X ab b β cc k E Hs R:=by
 refine X.cd (hE.out.trans ?_) h
 have:=ME (k:=key) jd F
 rw[he]at this
 exact this
theorem US{k:Kt}(fs:rZ)(key:Bs)(jd:(fs.map (·.1)).Nodup)(a:Option Addr)(c:Nat)(l:List Seen)[hE:ES Hs [own 155 8 a l.length c (l.flatMap Seen.cs),cV ((jN fs key).map kA)] F](h:X ab b β cc k E (cV ((yV fs key ((a,c),l)).map kA)::F) R):X ab b β cc k E Hs R:=
 X.cd (hE.out.trans (QX (k:=key) ((a,c),l) jd F)) h
theorem Xf{fs:rZ}(h:(mZ fs k).2≠[]):k∈fs.map (·.1):=by
 grind [As]
theorem Ss{fs:rZ}{e:Aq}(h:k∈fs.map (·.1))(hv:vZ e=vZ (mZ fs k)):jA (yV fs k e)=jA fs:=by
 obtain⟨pre,y,post,rfl,h2⟩:=mG h
 have h3:(pre++(k,y)::post).findIdx? (λx=>x.1=k)=some pre.length:=by
  grind
 grind [mZ,yV]
theorem St{d:dR}(jd:(d.map (·.1)).Nodup)(h:kQ d k≠[]):d.Perm (FX d k (kQ d k)):=by
 by_cases hk:k∈d.map (·.1)
 ·obtain⟨pre,y,post,rfl,h2⟩:=mG hk
  grind [kQ,FX,q8]
 grind [kQ,List.find?_eq_none]
theorem Qg(K:Nat)(d:dR)(s:Seen)(hs:s.may=true)(gE:dI d<=1000000000):
 TR ab G 213 #[au K,.agg s.cs.toArray] [gS K d] (cb λv B=>v=.tuple #[]/\B=[gS K (d.take s)]):=by
 refine aW U λb β hb hG=>xS ?_
 refine X.box U U U U λb3=>?_
 refine zP K λM fs hp dp jd=>xS ?_
 refine eR 7 [0,3,1] ?_
 refine xL [0,1,2,3,4,5] ?_
 refine xS ?_
 refine rJ s.key U U U U ?_
 rw[Ar]
 have hg:kQ d s.key=(mZ fs s.key).2:=bj2
 have Su:=r6 d s.key dp.nd
 have qO:=dp.get s.key
 refine Ce fs s.key jd ?_
 generalize hE:mZ fs s.key=e at*
 obtain⟨⟨a,c⟩,l⟩:=e
 dsimp only[vZ]at hg ⊢
 rw[hg]at Su qO
 have hI:=mf (c:=c) (e:=155) (DS G a l.length c l 316 [] [au b3] (bx b3 155 s.cs) (λo=>o.same s) (λx _=>ak5 G x s b3) U av) (by rintro v B ⟨rfl,rfl⟩;infer_instance) U (λ_=>rfl)
 refine xS ?_
 refine bw hI ?_
 rintro v B ⟨B',⟨rfl,rfl⟩,rfl⟩
 dsimp only[ae,ai,ah]
 have e0:d.take s=FX d s.key (if cy (λo=>o.same s) 0 l<0 then l++[s]else if s.open_=true then l.set (cy (λo=>o.same s) 0 l).toNat s else l):=by
  rw[dR.take,hg];rfl
 have tV:=KW (λo=>o.same s) l 0
 generalize cy (λo=>o.same s) 0 l=i at*
 have tZ:=dp.take hs
 generalize d.take s=d2 at*
 refine xB ?_ ?_<;>intro h1
 ·have h1:i<0:=by grind
  rw[if_pos h1]at e0;subst e0;refine xS ?_;refine eR 8 [3,1] ?_;refine xL [0,1,2,3,4,5,6,7] ?_;refine xZ ?_;intro b8;refine eD (s) U U U U av U iA iA iA iA iA av λa8 c8=>xS ?_;refine qi s.key bW U U U U ?_;rw[show(Value.slice a8 (l++[s]).length c8)=vZ ((a8,c8),l++[s])from rfl,Sn];refine xS ?_;refine US fs s.key jd a8 c8 (l++[s]) ?_;refine wF K M (yV fs s.key ((a8,c8),l++[s])) (KV _ hp jd) tZ ?_;exact xF
 ·have h1:¬i<0:=by grind
  rw[if_neg h1]at e0;obtain⟨j,hj,_,hjl⟩:∃j:Nat,i=j/\0<=j/\j<0+l.length:=tV.resolve_left h1;subst hj;have hlne:(mZ fs s.key).2≠[]:=bE;refine xB ?_ ?_<;>intro h2
  ·rw[if_pos h2]at e0;subst e0;refine xS ?_;refine gV a av λbl Fh=>?_;subst Fh;refine du U U U U U av (xS ?_);refine nT (bo:=Seen.cs) (l:=l) j s U U U U (λ_=>rfl) nH av U U (xS ?_);rw[fG]at tZ ⊢;have sI:(l.set j s).length=l.length:=gB;have hkm:jA (yV fs s.key ((some ⟨bl,0,none⟩,c),l.set j s))=jA fs:=by grind [Ss,Xf]
   have PY:=KV (k:=s.key) ((some ⟨bl,0,none⟩,c),l.set j s) hp jd;refine X.cd (Hs':=[own 155 8 (some ⟨bl,0,none⟩) (l.set j s).length c ((l.set j s).flatMap Seen.cs),bx K 234 [.map (some M)],mp ao M (jA (yV fs s.key ((some ⟨bl,0,none⟩,c),l.set j s))),cV ((jN fs s.key).map kA)]) (by rw[sI,hkm];exact ay) ?_;refine US fs s.key jd (some ⟨bl,0,none⟩) c (l.set j s) ?_;refine wF K M (yV fs s.key ((some ⟨bl,0,none⟩,c),l.set j s)) PY tZ ?_;exact xF
  ·rw[if_neg Xw]at e0;subst e0;refine xS ?_;refine x9 fs s.key jd hE ?_;refine wF K M fs (hp.trans ?_) tZ ?_
   ·have:=St (k:=s.key) dp.nd bE
    grind
   exact xF
theorem CM{P:Program}{G:bZ}{f:FuncId}{args:Array Value}{A:List az}{Q:Value->List az->Prop}(h:TR P G f args A (cb Q))(F:List az):TR P G f args (A++F) (cb λv B=>∃B',Q v B'/\B=B'++F):=by
 intro β w hG hs;obtain⟨β',hβ,vV,nL⟩:=jH hs;refine(h β' w (G.mono hβ hG) vV).mono ?_;rintro e w' ⟨B,hB,zU⟩;cases e with
 |panicked ch=>exact hB.elim
 |outgrown=>exact hB.elim
 |returned v=>exact⟨_,⟨B,hB,U⟩,nL B w' zU⟩
structure Wr where
 cK:Nat
 every:Nat
 number:UInt32
 size:Nat
 loose:Nat
 count:Nat
 shut:Bool
structure Wr.ok(w:Wr):Prop where
 l1:64<=w.cK
 l2:w.cK<=1048576
 e2:w.every<=1000
 sz:w.size<=w.cK+6100
 lo:w.loose<=w.size
 co:9*w.count<=w.loose
@[reducible] def Wr.cs(D:Nat)(w:Wr):List Value:=[au D,.int .i64 w.cK,.int .i64 w.every,.int .u32 w.number.toNat,.int .i64 w.size,.int .i64 w.loose,.int .i64 w.count,.bool w.shut]
def Wr.hit(w:Wr)(e:Int):Wr:={w with shut:=w.shut||(e==74||e==75)}
def gr(w:Wr):Bs:=(fH 1 w.number).1
theorem KX(cK every:Int):TR ab G 64 #[au D,.int .i64 cK,.int .i64 every] []
 (cb λv B=>(¬(64<=cK/\cK<=1048576/\0<=every/\every<=1000)/\v=.tuple #[.pointer none,.int .i64 90]/\B=[])\/
  ((64<=cK/\cK<=1048576/\0<=every/\every<=1000)/\∃W,v=.tuple #[au W,.int .i64 0]/\B=[bx W 177 (Wr.cs D ⟨cK.toNat,every.toNat,0,0,0,0,false⟩)])):=by
 refine jr U λb β hb hG=>?_
 have bad:∀{N vs k Hs},¬(64<=cK/\cK<=1048576/\0<=every/\every<=1000)->lk vs 6=some (.pointer none)->lk vs 7=some (.int .i64 90)->X ab b β none (.it (.code .ret::k)) ⟨N,vs,[]⟩ Hs
  (cb λv B=>(¬(64<=cK/\cK<=1048576/\0<=every/\every<=1000)/\v=.tuple #[.pointer none,.int .i64 90]/\B=[])\/
   ((64<=cK/\cK<=1048576/\0<=every/\every<=1000)/\∃W,v=.tuple #[au W,.int .i64 0]/\B=[bx W 177 (Wr.cs D ⟨cK.toNat,every.toNat,0,0,0,0,false⟩)])):=by
  intro N vs k Hs he h1 h2
  exact X.ret hb (.tmp h1 (.tmp h2 .nil)) ⟨_,.inl ⟨he,U,U⟩,aN.nil _⟩
 refine xT 10 ?_ ?_<;>intro h1
 ·have h1:cK<64:=by grind
  exact aD4
 ·have h1:¬cK<64:=by grind
  refine xT 14 ?_ ?_<;>intro h2
  ·have h2:cK>1048576:=by grind
   exact aD4
  ·have h2:¬cK>1048576:=by grind
   refine xT 18 ?_ ?_<;>intro h3
   ·have h3:every<0:=by grind
    exact aD4
   ·have h3:¬every<0:=by grind
    refine xB ?_ ?_<;>intro h4
    ·have h4:every>1000:=by grind
     exact aD4
    ·have h4:¬every>1000:=by grind
     obtain⟨l,rfl⟩:∃k:Nat,cK=k:=⟨cK.toNat,by omega⟩;obtain⟨q,rfl⟩:∃k:Nat,every=k:=⟨every.toNat,by omega⟩;refine xP ?_;intro W;exact X.ret hb (.tmps U) ⟨[bx W 177 [au D,.int .i64 l,.int .i64 q,.int .u32 0,.int .i64 0,.int .i64 0,.int .i64 0,.bool false]],.inr ⟨by omega,W,U,U⟩,ay⟩
theorem Io(W D:Nat)(w:Wr)(fd:Nat)[CF ab fd](fst cap:List Value)(S S':az)(e:Int)
 (Fy:TR ab GG fd (fst++[ao (gr w)]++cap).toArray [bx W 177 (w.cs D),S] (cb λv B=>v=.int .i64 e/\B=[bx W 177 (w.cs D),S'])):
 TR ab GG 205 #[au W,.func (.func fd) fst.toArray cap.toArray] [bx W 177 (w.cs D),S] (cb λv B=>v=.int .i64 e/\B=[bx W 177 ((w.hit e).cs D),S']):=by
 refine aW U λb β hb hG=>?_
 refine xJ (yU 1 w.number) ?_
 rw[show(fH 1 w.number).1=gr w from rfl]
 refine xS ?_
 refine gW (fst:=fst) (us:=[ao (gr w)]) (cap:=cap) hG Fy U U U U aN.es ?_
 rintro v B ⟨rfl,rfl⟩
 dsimp only[ae,ai,ah]
 unfold Wr.hit
 refine xT 21 ?_ ?_<;>intro h1
 ·have h1:e=74:=by grind
  subst h1;exact bC5
 ·have h1:e≠74:=by grind
  refine xB ?_ ?_<;>intro h2
  ·have h2:e=75:=by grind
   subst h2;exact bC5
  ·have h2:e≠75:=by grind
   refine xS ?_;have hw:(w.shut||(e==74||e==75))=w.shut:=by simp[h1,h2]
   exact X.ret hb (.tmps U) ⟨[bx W 177 (Wr.cs D w),S'],⟨U,by rw[hw]⟩,ay⟩
end
end Go.Proofs
