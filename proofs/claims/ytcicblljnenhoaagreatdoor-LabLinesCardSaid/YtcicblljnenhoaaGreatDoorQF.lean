/- A part of the proof of LabLines. -/
import Derived.Test.YtcicblljnenhoaaGreatDoorQE
open Bool renaming false_and->ab6,false_eq_true->bY
open Go.Instr renaming checkKey->gv
open Go.IntKind renaming bits->gy,i64->dV,signed->iW,wrap->ic
open Go.Lib renaming countByte->bP,decDigits->gT,fields->iG,fieldsGo->ab8,itoa->gK,itoa_length_le->dG,nDigits->fQ
open List renaming Perm.cons->fS,Perm.swap->eu,all_eq_true->ef,append_assoc->bT,append_nil->ah,cons_append->ae,drop_eq_getElem_cons->aP,drop_of_length_le->bc,filterMap_cons->eI,findIdx?_eq_some_iff_getElem->bA,flatMap_cons->eQ,foldl_cons->cY,getElem?_eq_getElem->aV,getElem?_map->dO,getElem_map->ft,getElem_mem->aB,length->dq,length_append->aG,length_cons->ax,length_map->aA,length_nil->aR,length_pos_iff->fy,length_take->cB,map_append->cq,map_congr_left->bQ,map_cons->aK,map_map->cz,map_nil->ie,mem_append->cM,mem_cons->bK,mem_filter->dZ,mem_map->bj,mem_of_find?_eq_some->Y,mem_singleton->bD,nil_append->ai,perm_middle->ee,replicate->bI,sum_cons->eC,take_add_one->aY,take_append_drop->cP,take_length->bh,take_of_length_le->aD,take_succ_eq_append_getElem->dd
open Nat renaming add_mul->fP,blt->aH,le_add_right->aT,le_of_ble_eq_true->aI,le_refl->ar,le_trans->aj,mul_le_mul_right->cX,succ_le_succ->fu,zero_add->aQ,zero_le->al
open Option renaming getD_some->bX,some.inj->dN
open Go.Sem renaming run->fo
open Go.Proofs.Tryz renaming prog->ab,underlying4->fY,underlying9->cO
open UInt8 renaming ofNat->cu,toNat_inj->aa2
set_option linter.all false
set_option maxHeartbeats 4000000
namespace Go.Proofs
open Go.Sl
set_option maxRecDepth 8000
section
variable{l:List bn}{k N j:Nat}{x:WD}{d:be}{m m':Mk}{nm:Bs}{ss a:List eH}{cap e:Int}{f:bn}(b:Bs)(c:Nat)(s:be)(p:Place)(n:Bs)
def rF(c:UInt8):Prop:=33<=c.toNat/\c.toNat<=126/\c≠37
theorem EV{s:Bs}(h:∀c∈s,rF c)(h1:s≠[])(h2:s≠[45]):iV s=s:=by
 unfold iV
 rw[if_neg h1,if_neg h2]
 have:∀l:Bs,(∀c∈l,rF c)->l.flatMap o7=l:=by
  intro l;induction l with
  |nil=>intro _;rfl
  |cons c r ih=>
   intro hl
   rw[eQ,ih λx hx=>hl x a08]
   have hc:33<=c.toNat/\c.toNat<=126/\c≠37:=hl c nH
   grind [o7]
 grind
theorem EW(k:Nat)(h:k<16):rF (lV k):=by
 have:∀k:Fin 16,33<=(lV k.val).toNat/\(lV k.val).toNat<=126/\lV k.val≠37:=de;exact this ⟨k,h⟩
theorem EX:∀(f u:Nat),∀c∈Ie f u,rF c
 |0,_,c,h=>by cases h
 |f+1,u,c,h=>by
  rw[Ie]at h;split at h
  ·rename_i hu;rw[bD.1 h];exact EW u hu
  ·rcases cM.1 h with h|h
   ·exact EX f _ c h
   ·rw[bD.1 h];exact EW _ (Nat.mod_lt _ de)
theorem F9(hc:1<=c/\c<=3)(n:UInt32):(∀x∈hU c n,rF x)/\(hU c n).length<=17/\8<=(hU c n).length:=by
 have hl:=DM n;have hh:(∀x∈kH c,rF x)/\(∀x∈kI c,rF x)/\(kH c).length=4/\4<=(kI c).length/\(kI c).length<=5:=by
  have:c=1\/c=2\/c=3:=av;unfold rF;rcases this with rfl|rfl|rfl<;>decide
 unfold hU;refine⟨λx hx=>?_,?_,?_⟩
 ·simp only[cM]at hx
  rcases hx with((hx|hx)|hx)|hx
  ·grind
  ·rw[List.eq_of_mem_replicate hx];exact⟨by decide,by decide,by decide⟩
  ·exact EX _ _ x hx
  grind
 all_goals grind
theorem AQ(hc:1<=c/\c<=3)(n:UInt32):BK (hU c n)=0/\BK (hU c n++ia)=0:=by
 obtain⟨h1,h2,h3⟩:=F9 c hc n;have ht:∀x∈ia,rF x:=by unfold ia rF;decide
 have e1:iV (hU c n)=hU c n:=EV h1 bE bE;have e2:iV (hU c n++ia)=hU c n++ia:=EV (λx hx=>(cM.1 hx).elim (h1 x) (ht x)) (by grind [aG]) (by grind [aG]);unfold BK;rw[e1,e2];refine⟨if_neg av,if_neg ?_⟩;rw[aG];have:ia.length=4:=U;omega
theorem QC:BK []=0/\BK ([]++ia)=0:=de
theorem EY(n:UInt32):BK (fH c n).1=0/\BK ((fH c n).1++ia)=0:=by
 grind [fH,AQ,QC]
theorem L0:BK (eY n).1=0/\BK ((eY n).1++ia)=0:=by
 grind [eY,AQ,QC]
theorem as3{n:Bs}(h:(bJ n).1=1):BK n=0/\BK (n++ia)=0:=by
 grind [AQ,BD]
theorem EZ:∀{a b:List eH},xt a->xt b->xt (a++b)
 |[],_,_,hb=>hb
 |st::r,b,ha,hb=>by
  refine⟨λh2=>?_,EZ ha.2 hb⟩;obtain⟨st2,r2,rfl,h3,h4⟩:=ha.1 h2;exact⟨st2,r2++b,U,h3,h4⟩
theorem Zb(a b:List eH):Ca (a++b)=Ca a+Ca b:=by grind [Ca]
structure o9(ss:List eH)(k:Nat):Prop where
 pr:xt ss
 sh:∀st∈ss,CC st
 cn:Ca ss<=k
theorem o9.nil:o9 [] 0:=⟨trivial,λ_ h=>(by cases h),ar _⟩
theorem o9.app{b:List eH}(h:o9 a k)(g:o9 b j):o9 (a++b) (k+j):=
 ⟨EZ h.pr g.pr,λst hs=>(cM.1 hs).elim (h.sh st) (g.sh st),by rw[Zb];have:=h.cn;have:=g.cn;omega⟩
theorem o9.mono(h:o9 a k)(hk:k<=j):o9 a j:=⟨h.pr,h.sh,aj h.cn hk⟩
theorem o9.one{st:eH}(h2:st.op≠2)(h4:st.op≠4):o9 [st] (LZ st):=
 ⟨⟨λh=>absurd h h2,trivial⟩,λs hs=>by rw[bD.1 hs];exact⟨λh=>absurd h h2,λh=>absurd h h4⟩,ar _⟩
theorem o9.ahead{d:Bs}(h1:BK nm=0)(h2:BK (nm++ia)=0):o9 [⟨2,nm++ia,[],d,0⟩,⟨3,nm++ia,[],[],0⟩,⟨4,nm++ia,nm,[],0⟩] (if d.length=0 then 1 else 0):=by
 refine⟨⟨λ_=>⟨_,_,U,U,U⟩,λh=>by simp at h,λh=>by simp at h,trivial⟩,λst hs=>?_,?_⟩
 ·simp only[bK,List.not_mem_nil,or_false]at hs;rcases hs with rfl|rfl|rfl
  ·exact⟨λ_=>h2,λh=>by simp at h⟩
  ·exact⟨λh=>by simp at h,λh=>by simp at h⟩
  ·exact⟨λh=>by simp at h,λ_=>h1⟩
 grind [Ca,LZ]
theorem qd{s:eH}(e:m.do s=.ok m'):m'.steps=m.steps++[s]/\m'.cD=m.cD:=by
 grind [Mk.do]
theorem uj{d:Bs}(h:o9 m.steps k)(h1:BK nm=0)(h2:BK (nm++ia)=0)(e:m.ahead nm d=.ok m'):o9 m'.steps (k+(if d.length=0 then 1 else 0))/\m'.cD=m.cD:=by
 unfold Mk.ahead at e;split at e
 ·cases e
 ·rename_i m1 e1;split at e
  ·cases e
  ·rename_i m2 e2;obtain⟨a1,b1⟩:=qd e1;obtain⟨a2,b2⟩:=qd e2;obtain⟨a3,b3⟩:=qd e;refine⟨?_,by rw[b3,b2,b1]⟩;rw[a3,a2,a1,bT,bT];exact h.app (o9.ahead h1 h2)
theorem MN{j:Bs}{z:Mk×Bs}(h:o9 m.steps k)(hj:j.length≠0)(e:m.v7 j=.ok z):o9 z.1.steps k/\z.1.cD=m.cD:=by
 unfold Mk.v7 at e;split at e
 ·cases e
 ·rename_i m' e'
  cases e
  obtain⟨h1,h2⟩:=EY 3 (fW 3 (m.now.map (·.name))).1
  have:=uj h h1 h2 e'
  grind
theorem O1{b:Bs}(h:(hintOf b).2=0):(hintOf b).1.length≠0:=by
 grind [hintOf,BX,mS,yE]
theorem MQ{b:Bs}{z:Mk×Int}(h:o9 m.steps k)(e:m.hint nm b=.ok z):o9 z.1.steps k/\z.1.cD=m.cD:=by
 obtain⟨l1,l2⟩:=L0 nm;unfold Mk.hint at e;split at e
 ·split at e
  ·grind
  ·dsimp only at e;split at e
   ·exact ax0
   ·split at e
    ·cases e
    ·rename_i m' e';cases e;obtain⟨a1,b1⟩:=qd e';refine⟨?_,b1⟩;dsimp only;rw[a1];exact h.app (o9.one nH nH)
 ·split at e
  ·grind
  ·exact ax0
theorem Zc:∀x∈cx b,x.cD=true->0<x.len:=by
 have hj:∀(a:Int) (l:List Ext) (t:Int),(∀x∈l,x.cD=true->0<x.len)->∀x∈mb a l t,x.cD=true->0<x.len:=by
  grind [mb]
 have key:∀(L:List rI) (s:Int×List Ext),(∀x∈s.2,x.cD=true->0<x.len)->∀x∈(L.foldl ke s).2,x.cD=true->0<x.len:=by
  intro L;induction L<;>grind [ke]
 exact hj _ _ _ (key _ _ nH)
theorem as4{b:Bs}(h:0<nJ (cx b)):(Cv b (cx b)).length≠0:=by
 obtain⟨gE,fw⟩:=oF b
 have hp:=Zc b
 generalize cx b=L at*
 have:∃x∈L,x.cD=true:=by
  unfold nJ at h;simp_all
 grind [Cv,List.flatMap_eq_nil_iff,w8]
theorem a86:(Cv b (cx b)).length<=b.length:=by
 obtain⟨gE,fw⟩:=oF b;have:=y6 b (cx b) fw;omega
theorem Hz(h:o9 m.steps m.cD)(hn:(bJ f.name).1=1)(e:m.od f=.ok m'):o9 m'.steps m'.cD/\m'.cD<=m.cD+f.data.length:=by
 have hj:=a86 f.data;obtain⟨l1,l2⟩:=as3 hn;unfold Mk.od at e;dsimp only at e;split at e
 ·rename_i h0;have hp:=as4 h0;split at e
  ·cases e
  ·rename_i z ez;have hq:=MN (m:={m with bz:=m.bz+nF (cx f.data),cD:=m.cD+(Cv f.data (cx f.data)).length}) (k:=m.cD) h hp ez;obtain⟨q1,q2⟩:=hq;dsimp only at q2;split at e
   ·obtain⟨a1,b1⟩:=qd e
    refine⟨?_,by omega⟩
    rw[a1,b1,q2]
    refine(q1.app (o9.one nH nH)).mono ?_
    grind [LZ]
   ·obtain⟨a1,b1⟩:=uj q1 l1 l2 e
    refine⟨a1.mono ?_,by omega⟩
    grind
 ·cases e;refine⟨h.mono ?_,?_⟩;all_goals grind
theorem Ju(h:o9 m.steps m.cD)(hn:(bJ f.name).1=1)(e:m.clean f=.ok m'):o9 m'.steps m'.cD/\m'.cD<=m.cD+f.data.length:=by
 unfold Mk.clean at e;split at e
 ·cases e
 ·rename_i m2 e2;have h2:=Hz h hn e2;split at e
  ·cases e
  ·rename_i m3 e3
   cases e
   obtain⟨a,b⟩:=MQ h2.1 e3
   grind
theorem L1(ts:List UInt32):∀(L:List B0) (m m':Mk),(∀x∈L,(bJ x.iD.name).1=1)->o9 m.steps m.cD->kR (rb ts) L m=.ok m'->o9 m'.steps m'.cD/\m'.cD<=m.cD+(L.map λx=>x.iD.data.length).sum
 |[],m,m',_,h,e=>by cases e;grind
 |x::r,m,m',hn,h,e=>by
  unfold kR at e;split at e
  ·cases e
  ·rename_i m1 e1
   have h1:o9 m1.steps m1.cD/\m1.cD<=m.cD+x.iD.data.length:=by
    unfold rb at e1
    split at e1
    ·grind
    ·split at e1
     ·cases e1
     ·rename_i m3 e3;cases e1;have hc:=Ju h (hn x nH) e3;omega
   have h2:=L1 ts r m1 m' (λy hy=>hn y U8) h1.1 e
   grind
theorem QE(c:Int):∀l:List bn,((nP c l).map λx=>x.iD.data.length).sum<=aZ l
 |[]=>ar _
 |f::r=>by
  have ih:=QE c r;unfold nP aZ at*;rw[eI,aK,eC];split
  ·omega
  ·rename_i y hy;split at hy
   ·cases hy;rw[aK,eC];dsimp only;omega
   ·cases hy
theorem L2(c:Int)(l:List bn):((vY c l).map λx=>x.iD.data.length).sum<=aZ l:=by
 grind [iT,vY,QE]
theorem O2{c:Int}{x:B0}(h:x∈vY c l):((bJ x.iD.name).1:Int)=c:=by
 grind [vY,iT,nP]
theorem AR{α:Type}{f:Mk->α->Except Int Mk}(hf:∀m x m',f m x=.ok m'->(m'.steps=m.steps\/∃st:eH,st.op=1/\m'.steps=m.steps++[st])/\m'.cD=m.cD):∀(l:List α) (m m':Mk) (k:Nat),o9 m.steps k->kR f l m=.ok m'->o9 m'.steps k/\m'.cD=m.cD
 |[],m,m',k,h,e=>by cases e;grind
 |x::r,m,m',k,h,e=>by
  unfold kR at e;split at e
  ·cases e
  ·rename_i m1 e1;obtain⟨a,b⟩:=hf _ _ _ e1;have h1:o9 m1.steps k:=by
    rcases a with a|⟨st,hs,a⟩
    ·grind
    ·rw[a]
     refine(h.app (o9.one av av)).mono ?_
     grind [LZ]
   obtain⟨h2,h3⟩:=AR hf r m1 m' k h1 e;exact⟨h2,h3.trans b⟩
theorem TQ{ts:List UInt32}(e:fI l cap ts=.ok m):o9 m.steps m.cD/\m.cD<=aZ l:=by
 unfold fI at e;split at e
 ·cases e
 ·split at e
  ·cases e
  ·rename_i m1 e1;have i1:=AR (f:=xd) (λm x m' h=>by
    unfold xd at h
    obtain⟨a,b⟩:=qd h
    grind) _ _ _ 0 o9.nil e1
   split at e
   ·cases e
   ·rename_i m2 e2
    have hj1:m1.cD=0:=i1.2
    have i2:=L1 ts _ _ _ (λx hx=>by grind [O2]) bE e2
    have i3:=AR (f:=qB l) (λm x m' h=>by
     unfold qB at h
     split at h
     ·grind
     ·split at h
      ·cases h
      ·rename_i m3 e3
       cases h
       obtain⟨a,b⟩:=qd e3
       grind) _ _ _ _ i2.1 e
    grind [L2]
theorem BL:∀(f:Nat) (b:Bs) (at_:Nat),9*(kW f b at_).length<=b.length - at_
 |0,_,_=>al _
 |f+1,b,at_=>by
  unfold kW;have h:=pY b at_;split
  ·exact al _
  ·have h2:=BL f b ((eJ b at_).2.1+(eJ b at_).2.2).toNat
   grind
theorem E0:9*(lq b).length<=b.length:=aj (BL _ b 0) (Nat.sub_le _ _)
theorem vl(ks:List Int):9*(fV b ks).length<=b.length:=by
 grind [E0,fV]
theorem E1:∀l:List bn,9*zm (u3 l)<=aZ l
 |[]=>ar _
 |f::r=>by
  have ih:=E1 r;unfold u3 zm aZ at*;rw[eI,aK,eC];split
  ·omega
  ·rename_i y hy;unfold S9 at hy;split at hy
   ·cases hy
   ·cases hy
    have:=vl f.data []
    grind
theorem O3(l:List bn):9*zm (u6 l)<=aZ l:=by
 grind [u6,Hd,iT,E1]
theorem L3(l:List bn):9*(u9 l).length<=aZ l:=by
 grind [EE,se,O3,u9]
theorem TS(size:Int):∀(l:List Rec),(pD l size).length<=l.length:=by
 intro l
 unfold pD
 have key:∀(l:List Rec) (o:List Bs),(l.foldl (pk size) o).length<=o.length+l.length:=by
  intro l;induction l<;>grind [pk]
 grind
theorem CL{m:MM}{d:Bs}(h:o9 m.steps k)(h1:BK nm=0)(h2:BK (nm++ia)=0):o9 (m.ahead nm d).steps (k+1):=by
 refine(h.app (o9.ahead (d:=d) h1 h2)).mono ?_
 grind
theorem Js{m:MM}{d:Bs}(h:o9 m.steps k):o9 (m.writes d).steps (k+2):=by
 obtain⟨a1,a2⟩:=EY 1 (fW 1 m.names).1;obtain⟨b1,b2⟩:=L0 m.fresh;exact CL (CL h a1 a2) b1 b2
theorem I6:o9 [⟨1,nm,[],[],0⟩] 0:=by grind [o9.one,LZ]
theorem HD{m:MM}{s:nD}(h:o9 m.steps k):o9 (m.gw s).steps k:=by
 unfold MM.gw;split
 ·exact((h.app I6).app I6)
 ·exact h.app I6
theorem a88(l:List bn)(iP:List nD)(fresh:List Bs):o9 (B6 l iP fresh).steps (2*fresh.length):=by
 unfold B6;split
 ·exact o9.nil.mono (al _)
 ·have hw:∀(fr:List Bs) (m:MM) (k:Nat),o9 m.steps k->o9 (fr.foldl MM.writes m).steps (k+2*fr.length):=by
   intro fr;induction fr with
   |nil=>grind
   |cons d r ih=>
    intro m k h;rw[cY,ax];exact(ih _ _ (Js (d:=d) h)).mono av
  have hr:∀(o:List nD) (m:MM) (k:Nat),o9 m.steps k->o9 (o.foldl MM.gw m).steps k:=by
   intro o;induction o<;>grind [HD]
  have:=hw fresh ⟨[],l.map (·.name)⟩ 0 o9.nil
  grind
theorem TT{size:Int}(e:pq l size cap=.ok ss):o9 ss 1000000:=by
 unfold pq at e;split at e
 ·cases e
 ·split at e
  ·cases e
  ·rename_i h;split at e
   ·cases e
   ·cases e
    refine(a88 _ _ _).mono ?_
    grind [TS,L3]
structure lv(s t:be)(k:Nat):Prop where
 ok:t.ok
 P:t.P<=s.P+k
 L:t.L<=s.L
theorem lv.refl{s:be}(h:s.ok):lv s s 0:=⟨h,ar _,ar _⟩
theorem lv.trans{s t u:be}(h:lv s t k)(g:lv t u j):lv s u (k+j):=⟨g.ok,by have:=h.P;have:=g.P;omega,aj g.L h.L⟩
theorem lv.mono{s t:be}(h:lv s t k)(hk:k<=j):lv s t j:=⟨h.ok,aj h.P av,h.L⟩
theorem I7{s:be}(h:s.ok)(n:Bs):lv s (s.sync n).1 0:=⟨EU h n,OW h.nd h.last n,OZ s n⟩
theorem TU{s:be}(h:s.ok)(n ys:Bs):lv s (s.append n ys).1 0:=⟨LW h n ys,LV h.nd n ys,LY s n ys⟩
theorem Hq{s:be}(h:s.ok){n:Bs}(hn:BK n=0):lv s (s.create n).1 1:=⟨ET h n,ER s n,by grind [LX]⟩
theorem as5{s:be}(h:s.ok)(n:Bs)(i j:Int):lv s (s.read n i j).1 0:=⟨a71 h n i j,a69 s n i j,a73 s n i j⟩
theorem Zd{s:be}(h:s.ok)(k:Int):lv s (s.ji k) 0:=⟨h.ji k,ar8 s k,as0 s k⟩
theorem QG{s:be}(h:s.ok)(hs:o9 ss k):lv s (s.ml ss).1 (k+1):=by
 obtain⟨a,b,c⟩:=Za h hs.pr hs.sh;exact⟨a,by have:=hs.cn;omega,c⟩
theorem I8:∀(l:List (bn×bn)) (s:be),s.ok->lv s (IQ l s).1 0
 |[],s,h=>lv.refl h
 |x::r,s,h=>by
  unfold IQ;split
  ·exact I8 r s h
  ·split
   ·exact I7 h _
   ·exact(I7 h _).trans (I8 r _ (EU h _))
theorem AS(h:x.2.ok):lv x.2 x.settle.1.2 0:=by
 grind [WD.settle,lv.refl,I7]
theorem L4(h:x.2.ok):lv x.2 x.sync.1.2 0:=by
 grind [WD.sync,lv.refl,AS]
theorem Hr(h:x.2.ok):lv x.2 x.close.1.2 0:=L4 h
theorem E2(h:x.2.ok):lv x.2 x.begin.1.2 1:=by
 have h1:=AS h;unfold WD.begin;dsimp only;split
 ·exact h1.mono av
 ·have hn:∀w:Wr,BK (gr w)=0:=λw=>(EY 1 _).1;split
  ·exact h1.trans (Hq h1.ok (hn _))
  ·exact h1.trans (Hq h1.ok (hn _))
theorem as6(h:x.2.ok)(p:Place):lv x.2 (WD.B7 x p).1.2 0:=by
 grind [WD.B7,AS,lv.refl]
theorem QH(h:x.2.ok)(b:Bs):lv x.2 (WD.xm x b).1.2 0:=by
 unfold WD.xm;dsimp only;have h1:=TU h (gr x.1) b;split
 ·exact h1
 ·exact h1.trans (as6 (x:=(_,(x.2.append (gr x.1) b).1)) h1.ok _)
theorem a89(h:x.2.ok)(r:Rec):lv x.2 (WD.put x r).1.2 1:=by
 unfold WD.put;split
 ·exact(lv.refl h).mono av
 ·split
  ·exact(lv.refl h).mono av
  ·dsimp only;split
   ·split
    ·exact E2 h
    ·exact(E2 h).trans (QH (E2 h).ok _)
   ·exact(QH h _).mono av
def Cb(p:Place):Prop:=p.at_<=1000000000/\p.len<=1000000000
theorem Cb.ok{p:Place}(h:Cb p):LD p:=⟨by have:=h.1;omega,by have:=h.2;omega⟩
def dR.pl(d:dR):Prop:=∀x∈d,∀s∈x.2,Cb s.place
theorem QI{d:dR}(h:d.pl)(k:Bs):∀s∈kQ d k,Cb s.place:=by
 intro s hs;unfold kQ at hs;cases hf:d.find? (λx=>decide (x.1=k))with
 |none=>grind
 |some x=>rw[hf]at hs;exact h x (Y hf) s hs
theorem Ht{l:List Seen}{s:Seen}(hl:∀x∈l,Cb x.place)(hs:Cb s.place):∀x∈mc l s,Cb x.place:=by
 grind [mc]
theorem as7{d:dR}{s:Seen}(h:d.pl)(hs:Cb s.place):(d.take s).pl:=by
 intro x hx y hy
 unfold dR.take FX at hx
 rcases bK.1 hx with rfl|hx
 ·grind [Ht,QI]
 ·exact h x ((dZ.1 hx).1) y hy
theorem I9{d:dR}{l:List Seen}(h:d.pl)(hl:∀s∈l,Cb s.place):(d.add l).1.pl:=by
 unfold dR.add;split
 ·exact h
 ·dsimp only
  have:∀(l:List Seen) (d:dR),d.pl->(∀s∈l,Cb s.place)->(l.foldl dR.take d).pl:=by
   intro l;induction l<;>grind [as7]
  grind
theorem Ze{d:dR}(h:d.pl)(k:Bs):Cb (d.get k).1.place:=by
 have hz:Cb Seen.zero.place:=⟨by decide,by decide⟩
 have hl:Cb (d.last k).1.place:=by
  unfold dR.last;split
  ·exact hz
  ·rename_i me;split
   ·exact hz
   ·have h1:=BB me;exact QI h k _ (dZ.1 h1).1
 grind [dR.get]
theorem Hu:∀(f:Nat) (b:Bs) (at_:Nat),∀x∈kW f b at_,0<=x.at_/\9<=x.size/\x.at_+x.size<=b.length
 |0,_,_,x,hx=>by cases hx
 |f+1,b,at_,x,hx=>by
  unfold kW at hx;have h:=pY b at_;split at hx
  ·cases hx
  ·rcases bK.1 hx with rfl|hx
   ·grind
   ·exact Hu f b _ x hx
theorem I'(hl:∀f∈l,f.data.length<=4194304):∀x∈lN l,Cb x.1:=by
 intro x hx
 unfold lN nM at hx
 obtain⟨f,hf,hx⟩:=List.mem_flatMap.1 hx
 obtain⟨y,hy,rfl⟩:=bj.1 hx
 have h1:=Hu _ _ _ y ((dZ.1 hy).1)
 grind [vY,iT,nP,recAt,Cb]
theorem O4:dR.pl []:=λ_ h=>(by cases h)
theorem as8(hl:∀f∈l,f.data.length<=4194304):(uf l).pl:=by
 unfold uf
 have hv:=I' hl
 generalize lN l=V at*
 have:∀(V:List (Place×Rec)) (d:dR),d.pl->(∀x∈V,Cb x.1)->(V.foldl ox d).pl:=by
  intro V;induction V with
  |nil=>grind
  |cons x r ih=>
   intro d h hv;refine ih _ ?_ λy hy=>hv y U8;unfold ox;exact I9 h λs hs=>by rw[bD.1 hs];exact hv x nH
 grind [O4]
theorem as9(hl:∀f∈l,f.data.length<=4194304):(FZ l).pl:=by
 unfold FZ;exact I9 O4 λs hs=>by
  obtain⟨x,hx,rfl⟩:=bj.1 hs;exact I' hl x hx
theorem TV{d:dR}(h:d.pl)(p:Place)(body:Bs):(d.settle p body).1.pl:=by
 unfold dR.settle;split
 ·dsimp only;intro x hx y hy;unfold dR.settled at hx;obtain⟨z,hz,h1⟩:=List.mem_filterMap.1 hx;split at h1
  ·cases h1
  ·cases h1;dsimp only at hy;have key:∀(l acc:List Seen),(∀s∈l,Cb s.place)->(∀s∈acc,Cb s.place)->∀s∈l.foldl (λacc s=>if(eU p body s).2=true then mc acc (eU p body s).1 else acc) acc,Cb s.place:=by
    intro l;induction l with
    |nil=>grind
    |cons s r ih=>
     intro acc hl ha;refine ih _ (λx hx=>hl x a08) ?_;dsimp only;split
     ·refine Ht ha ?_
      grind [eU]
     ·exact ha
   exact key z.2 [] (h z hz) nH y hy
 ·exact h
theorem at0(p:ZX):∀x∈(gq b p).1,x.at_<=4194304/\x.len<=4194304:=by
 have key:∀(f:Nat) (b:Bs) (m:Nat) (s:Fi),(∀x∈s.l,x.at_<=4194304/\x.len<=4194304)->∀x∈(Uc rU f b m s).1.l,x.at_<=4194304/\x.len<=4194304:=by
  intro f;induction f with
  |zero=>intro b m s h;exact h
  |succ f ih=>
   intro b m s h;unfold Uc;split
   ·exact h
   ·split
    ·exact h
    ·rename_i h2
     have hg:=je (rv b m FG)
     obtain⟨_,_,_,_,_,h3,_,h4,_⟩:=hg
     grind [rU]
 unfold gq;dsimp only;split
 ·simp
 ·split
  ·simp
  ·exact key _ _ _ _ (by simp[Fi.zero])
def oA(l:List Src):Prop:=∀s∈l,s.data.length<=4194304/\∀x∈s.fk,x.at_<=4194304/\x.len<=4194304
theorem at1{s:Src}(h:s.data.length<=4194304/\∀x∈s.fk,x.at_<=4194304/\x.len<=4194304):∀y∈gM s,Cb y.place:=by
 intro y hy
 unfold gM at hy
 split at hy
 ·grind [oH,Cb]
 ·obtain⟨x,hx,rfl⟩:=bj.1 hy;exact I' (λf hf=>by grind) x hx
theorem Zf{l:List Src}(h:oA l):(gQ l).pl:=by
 unfold gQ
 have:∀(l:List Src) (d:dR),d.pl->oA l->(l.foldl zd d).pl:=by
  intro l;induction l with
  |nil=>grind
  |cons s r ih=>
   intro d h hl;refine ih _ ?_ λy hy=>hl y U8;exact I9 h (at1 (hl s nH))
 grind [O4]
theorem Zg{l:List Src}(h:oA l):(BE l).pl:=by
 unfold BE mn;exact vM (I:=dR.pl) (λz s p _ h=>TV h p _) l _ _ (Zf h)
theorem at2(hl:∀f∈l,f.data.length<=4194304):oA (tb l):=by
 intro s hs;unfold tb at hs;obtain⟨f,hf,h⟩:=List.mem_filterMap.1 hs;unfold pB at h;split at h
 ·cases h
 ·split at h
  ·grind
  ·cases h;exact⟨hl f hf,at0 _ _⟩
theorem O5{l:List Src}(h:oA l):oA (iN l):=by
 have h1:∀(l l':List Src),oA l->nB l=some l'->oA l':=by
  grind [oA,nz,nB]
 have h2:∀(n:Nat) (l:List Src),oA l->oA (nC n l):=by
  intro n;induction n<;>grind [nC]
 exact h2 _ l h
theorem Zh{l:List Src}{fs:List bn}(h:oA l)(hf:∀f∈fs,f.data.length<=4194304):oA (qG l fs):=by
 unfold qG;induction fs generalizing l with
 |nil=>exact h
 |cons f r ih=>
  refine ih ?_ λg hg=>hf g (by simp[hg]);intro s hs;obtain⟨x,hx,rfl⟩:=bj.1 hs;unfold thenS;split
  ·exact⟨hf f nH,(h x hx).2⟩
  ·exact h x hx
def eS(e:Int):Prop:=0<=e/\e<=200
theorem eS.ok(h:eS e):F5 e:=⟨by have:=h.1;omega,by have:=h.2;omega⟩
theorem eS.of(e:Int)(h0:0<=e)(h1:e<=200):eS e:=⟨h0,h1⟩
theorem AT(fs:List (Bs×bF))(u:Nat):eS (s.gZ fs u).2:=by
 unfold be.gZ;split
 ·exact aL0
 exact aH1
theorem O6(r:Bool):eS (s.find n r).2:=by
 unfold be.find;split
 ·exact by4
 ·split
  ·exact by4
  exact aH1
theorem vR{s:be}{n:Bs}{r:Bool}{o:Option bF}(h:s.find n r=(o,e)):eS e:=by
 grind [O6]
theorem L5:eS (s.create n).2:=by
 unfold be.create
 split
 ·exact by4
 grind [AT,O6]
theorem L6(ys:Bs):eS (s.append n ys).2:=by
 unfold be.append
 split
 ·exact aG4
 grind [vR]
theorem O7:eS (s.sync n).2:=by
 grind [be.sync,vR,AT]
theorem Zi:eS (s.remove n).2:=by
 grind [be.remove,O6,AT]
theorem Zj(m:Bs):eS (s.rename n m).2:=by
 grind [be.rename,vR,AT]
theorem O8(k:Int):eS (s.truncate n k).2:=by
 unfold be.truncate
 split
 ·exact aG4
 grind [vR]
theorem a90(i j:Int):eS (s.read n i j).2.2:=by
 grind [be.read,vR,AT]
theorem a92(st:eH):eS (s.step st).2:=by
 grind [be.step,Zi,be.write,L5,L6,O7,Zj,O8]
theorem aQ3:∀(ss:List eH) (s:be) (i:Nat),eS (s.run ss i).2.2
 |[],_,_=>⟨Int.le_refl 0,show(0:Int)<=200 by decide⟩
 |st::r,s,i=>by
  rw[be.run];split
  ·exact a92 s st
  ·exact aQ3 r _ _
theorem Zk(ss:List eH):eS (s.ml ss).2.2:=by
 unfold be.ml
 split
 ·exact by4
 grind [aQ3]
theorem O9:∀(l:List (bn×bn)) (s:be),eS (IQ l s).2
 |[],_=>⟨Int.le_refl 0,show(0:Int)<=200 by decide⟩
 |x::r,s=>by
  unfold IQ;split
  ·exact O9 r s
  ·split
   ·exact O7 _ _
   ·exact O9 r _
theorem E4(x:WD):eS x.settle.2:=by
 unfold WD.settle
 split
 ·exact by4
 grind [O7]
theorem QL(x:WD):eS x.sync.2:=by
 unfold WD.sync
 split
 ·exact by4
 grind [E4]
theorem L7(x:WD):eS x.close.2:=QL x
theorem at3(x:WD):eS x.begin.2:=by
 grind [WD.begin,E4,L5]
theorem a94(x:WD)(p:Place):eS (WD.B7 x p).2.2:=by
 unfold WD.B7
 dsimp only
 split
 ·grind [E4]
 exact aH1
theorem a95(x:WD)(b:Bs):eS (WD.xm x b).2.2:=by
 grind [WD.xm,L6,a94]
theorem TW(f:mj):eS (ca f):=by
 have hm:∀(l:Int) (k v:Bs) (d:Int),eS (oN l k v d):=by
  intro l k v d;unfold oN;repeat' split
  all_goals exact Ul
 have hf:∀(f:mj) (e:Int) (r:Bool) (g:mj),eS e->eS (uE f e r g):=by
  intro f e r g he;unfold uE;repeat' split
  all_goals first|exact he|exact Ul
 unfold ca;split
 ·split
  ·exact by4
  grind
 ·split
  ·split
   ·exact by4
   grind
  ·split
   ·exact hf _ _ _ _ Ul
   ·exact by4
theorem bq2(x:WD)(r:Rec):eS (WD.put x r).2.2:=by
 unfold WD.put
 split
 ·exact by4
 grind [TW,at3,a95]
theorem TX:eS (kg s p).2.2:=by
 unfold kg;split
 ·exact by4
 ·dsimp only
  split
  ·grind [a90]
  exact aH1
theorem bq3(d:dR)(l:List Seen):eS (d.add l).2:=by
 unfold dR.add;split<;>exact Ul
theorem L8:(kg s p).2.1.val.length<=2048:=by
 unfold kg;split
 ·exact al _
 ·dsimp only;split
  ·exact al _
  ·split
   ·exact al _
   ·rename_i h;have h0:(bL (s.read (fH 1 p.qK).1 p.at_ p.len).2.1 0).2.2=0:=av;exact(je (rv _ _ h0)).2.2.1
theorem E5{s:be}(h:s.ok)(p:Place):lv s (kg s p).1 0:=by
 grind [kg,lv.refl,as5]
structure xN(s:fJ)(N:Nat):Prop where
 k:s.ok N
 pl:s.dir.pl
 cf:s.OM
theorem xN.mono{s:fJ}{M:Nat}(h:xN s N)(hm:N<=M):xN s M:=⟨h.k.mono hm,h.pl,h.cf⟩
theorem zC:Cb Place.zero:=⟨by decide,by decide⟩
theorem QM{b:Bs}(h:x.1.size<=1060000)(hb:b.length<=6100):Cb (WD.xm x b).2.1:=by
 unfold WD.xm;dsimp only;split
 ·exact zC
 ·unfold WD.B7
  dsimp only
  have hs:(x.1.hit (x.2.append (gr x.1) b).2).size=x.1.size:=U
  grind [zC,Cb]
theorem a96(h:x.1.kS)(r:Rec):Cb (WD.put x r).2.1:=by
 unfold WD.put;split
 ·exact zC
 ·split
  ·exact zC
  ·rename_i hf;have hb:=mT (fj r) (by simpa using hf);dsimp only;split
   ·split
    ·exact zC
    ·exact QM (x.xo h).1.sz hb
   ·exact QM h.sz hb
theorem L9{x:fJ}(h:xN x N)(hd:d.ok)(r0:Rec):xN (x.write d r0).1.1 (N+1)/\lv d (x.write d r0).1.2 1/\eS (x.write d r0).2:=by
 have hk:=xX h.k d r0
 refine⟨⟨hk.1,?_,?_⟩,?_,?_⟩
 ·unfold fJ.write;dsimp only;split
  ·exact h.pl
  ·exact I9 h.pl λs hs=>by rw[bD.1 hs];exact a96 h.k.wr _
 ·unfold fJ.write;dsimp only;split<;>exact h.cf
 ·have:=a89 (x:=(x.wr,d)) hd ⟨x.last+1,r0.kind,r0.key,r0.val⟩
  grind [fJ.write]
 grind [fJ.write,bq2,bq3]
theorem Ma(x:fJ)(n:Nat):eS (x.writes n):=by
 unfold fJ.writes
 split
 ·(constructor<;>decide)
 ·split<;>(constructor<;>decide)
theorem Ja{x:fJ}(h:xN x N)(hd:d.ok)(k v:Bs):xN (x.put d k v).1.1 (N+1)/\lv d (x.put d k v).1.2 1/\eS (x.put d k v).2:=by
 have h0:∀e:Int,eS e->xN x (N+1)/\lv d d 1/\eS e:=λe he=>⟨h.mono av,(lv.refl hd).mono av,he⟩;unfold fJ.put;split
 ·exact aC4
 ·split
  ·exact bt1
  ·split
   ·exact h0 152 Ul
   grind [L9,Ma]
theorem Mb:∀(w:List Bs) (x:fJ) (d:be) (e:Int) (N:Nat),xN x N->d.ok->eS e->xN (tj w x d e).1.1 (N+w.length)/\lv d (tj w x d e).1.2 w.length/\eS (tj w x d e).2
 |[],x,d,e,N,h,hd,he=>⟨h,lv.refl hd,he⟩
 |k::r,x,d,e,N,h,hd,he=>by
  unfold tj;split
  ·exact⟨h.mono nH,(lv.refl hd).mono nH,he⟩
  ·obtain⟨a1,a2,a3⟩:=L9 h hd ⟨0,2,k,[]⟩;obtain⟨b1,b2,b3⟩:=Mb r _ _ _ _ a1 a2.ok a3;refine⟨b1.mono bE,(a2.trans b2).mono bE,b3⟩
theorem xu{x:fJ}(h:xN x N)(hd:d.ok)(ks:List Bs):xN (x.delete d ks).1.1 (N+ks.length)/\lv d (x.delete d ks).1.2 ks.length/\eS (x.delete d ks).2:=by
 have h0:∀e:Int,eS e->xN x (N+ks.length)/\lv d d ks.length/\eS e:=λe he=>⟨h.mono av,(lv.refl hd).mono av,he⟩;unfold fJ.delete;split
 ·exact aC4
 ·split
  ·exact bt1
  ·rename_i w hw;have hl:=LH x ks [] w hw;rw[aR,aQ]at hl;obtain⟨a,b,c⟩:=Mb w x d _ N h hd (Ma x w.length);exact⟨a.mono av,b.mono hl,c⟩
theorem CD{x:fJ}(hd:d.ok)(k:Bs):lv d (x.get d k).1 0/\eS (x.get d k).2.2.2/\(x.get d k).2.1.length<=2048:=by
 have h0:∀e:Int,eS e->lv d d 0/\eS e/\([]:Bs).length<=2048:=by grind [lv.refl]
 unfold fJ.get;split
 ·exact aC4
 ·split
  ·exact bt1
  ·split
   ·exact h0 0 Ul
   ·dsimp only
    split
    ·exact⟨E5 hd _,by constructor<;>first|decide|(dsimp only;decide),al _⟩
    grind [E5,TX,L8]
theorem E6{x:fJ}(h:xN x N)(hd:d.ok):xN (x.sync d).1.1 N/\lv d (x.sync d).1.2 0/\eS (x.sync d).2:=by
 have hg:=WD.Hh (x.wr,d) h.k.wr;unfold fJ.sync;split
 ·exact Wi
 ·split
  ·exact Wi
  ·exact⟨⟨⟨hg,h.k.dir,h.k.sum⟩,h.pl,h.cf⟩,L4 (x:=(x.wr,d)) hd,QL _⟩
theorem AU{x:fJ}(h:xN x N)(hd:d.ok):xN (x.close d).1.1 N/\lv d (x.close d).1.2 0/\eS (x.close d).2:=by
 have hg:=wa (x.wr,d) h.k.wr;unfold fJ.close;split
 ·exact Wi
 ·split
  ·exact⟨⟨⟨h.k.wr,h.k.dir,h.k.sum⟩,h.pl,h.cf⟩,lv.refl hd,by constructor<;>first|decide|(dsimp only;decide)⟩
  ·exact⟨⟨⟨hg,h.k.dir,h.k.sum⟩,h.pl,h.cf⟩,Hr (x:=(x.wr,d)) hd,L7 _⟩
theorem zD(x:fJ):∀(ks:List Bs) (d:be),d.ok->lv d (jY x ks d).2 0/\(jY x ks d).1.length<=ks.length/\∀y∈(jY x ks d).1,y.1∈ks/\y.2.length<=2048
 |[],d,h=>by grind [lv.refl,jY]
 |k::r,d,h=>by
  obtain⟨g1,g2,g3⟩:=CD (x:=x) h k;obtain⟨a1,a2,a3⟩:=zD x r _ g1.ok;unfold jY;split
  ·refine⟨g1.trans a1,by grind,λy hy=>?_⟩
   grind
  ·exact⟨g1.trans a1,by grind,λy hy=>⟨by grind,(a3 y hy).2⟩⟩
end
section
variable{d:be}{rest ns:List Bs}{n p N j:Nat}{ts:List UInt32}{c' c:xM}{cap e:Int}{a:jB}{s:Seen}{m:Mk}{w:Bs}(l:List bn)
theorem E7:∀L:List B0,9*(nM L).length<=(L.map λx=>x.iD.data.length).sum
 |[]=>ar _
 |x::r=>by
  have ih:=E7 r;have h:=vl x.iD.data [];exact Vq
theorem vm:9*(lN l).length<=aZ l:=by
 refine aj (E7 _) (aj (Nat.le_of_eq ?_) (Od 1 l));exact((iT _ _).map _).sum_nat
theorem Ga{p:Place}{body:Bs}{k:Bs}(h:s.key=k/\s.may=true)(hf:(eU p body s).2=true):(eU p body s).1.key=k/\(eU p body s).1.may=true:=by
 grind [za,eU]
theorem QN(p:Place)(body:Bs)(k:Bs):∀(l acc:List Seen),(∀s∈l,s.key=k/\s.may=true)->(∀s∈acc,s.key=k/\s.may=true)->∀s∈l.foldl (λacc s=>if(eU p body s).2=true then mc acc (eU p body s).1 else acc) acc,s.key=k/\s.may=true
 |[],_,_,ha=>ha
 |s::r,acc,hl,ha=>by
  rw[cY];refine QN p body k r _ (λx hx=>hl x a08) ?_;split
  ·rename_i hf;exact DV _ _ _ ha (Ga (hl s nH) hf)
  ·exact ha
theorem Mc{d:dR}(h:d.ok)(p:Place)(body:Bs):(d.settled p body).ok:=by
 refine⟨?_,?_,?_⟩
 ·have Af:((d.settled p body).map (·.1)).Sublist (d.map (·.1)):=by
   unfold dR.settled;have:∀l:dR,((l.filterMap λx=>if Ef p body x.2=[]then none else some (x.1,Ef p body x.2)).map (·.1)).Sublist (l.map (·.1)):=by
    intro l;induction l<;>grind
   exact this d
  exact h.nd.sublist Af
 ·intro x hx s hs;unfold dR.settled at hx;obtain⟨z,hz,h1⟩:=List.mem_filterMap.1 hx;split at h1
  ·cases h1
  ·cases h1;exact QN p body z.1 z.2 [] (h.may z hz) nH s hs
 grind [dR.settled]
theorem O'{d:dR}(h:d.ok)(p:Place)(body:Bs):(d.settle p body).1.ok:=by
 grind [dR.settle,Mc]
theorem Zo(l:List Src):(BE l).ok/\dI (BE l)<=iF l:=by
 obtain⟨h1,h2⟩:=vN l;have h3:=qF l;refine⟨?_,?_⟩
 ·unfold BE mn;exact vM (I:=dR.ok) (λz s p _ h=>O' h p _) l _ _ h1
 ·exact pQ l _ _ av
theorem Zp:(FZ l).ok/\9*dI (FZ l)<=aZ l:=by
 have h:=qe (d:=[]) ⟨by simp,by simp,by simp⟩ ((lN l).map iU)
 grind [vm,FZ,dI]
theorem Zq:(uf l).ok/\9*dI (uf l)<=aZ l:=by
 grind [OJ,vm,uf]
theorem E8(h:d.ok):∀f∈d.all,f.data.length<=4194304:=λf hf=>(sZ h hf).2.1
theorem AV(h:d.ok):aZ d.all<=4194304:=by
 rw[qD h,<-h.vX];exact aj h.le h.cap
theorem Zr(h:d.ok)(size:Int):lv d (lu d size).1 1000001/\eS (lu d size).2:=by
 unfold lu;split
 ·exact bF4
 ·split
  ·exact bF4
  ·split
   ·rename_i e he
    refine⟨(lv.refl h).mono av,?_⟩
    unfold pq at he
    split at he
    ·grind
    ·split at he
     ·exact av9
     ·split at he
      ·exact av9
      ·cases he
   grind [QG,TT,Zk]
theorem TY{x:fJ}(h:xN x N)(e:Int):xN (x.qI e) N:=⟨⟨h.k.wr,h.k.dir,h.k.sum⟩,h.pl,h.cf⟩
theorem Zt{x:fJ}(h:x.OM):x.wr0.kS:=⟨by show x.cK.toNat<=_;have:=h.2.1;omega,by show x.every.toNat<=_;have:=h.2.2.2;omega,by grind,ar _,ar _⟩
theorem AW{x:fJ}(h:xN x N)(hN:1400000<=N)(hd:d.ok):xN (x.merge d).1.1 N/\lv d (x.merge d).1.2 1000001/\eS (x.merge d).2/\lv d (WD.close (x.wr,d)).1.2 0/\(lu (WD.close (x.wr,d)).1.2 x.cK).1.ok/\(lu (WD.close (x.wr,d)).1.2 x.cK).1.P<=d.P+1000001:=by
 have hc:=Hr (x:=(x.wr,d)) hd;have hm:=Zr hc.ok x.cK;have hcm:=hc.trans hm.1;refine⟨?_,?_,?_,hc,hm.1.ok,by have:=hcm.P;omega⟩;all_goals unfold fJ.merge
 ·split
  ·exact h
  ·split
   ·exact h
   ·have h1:xN (x.Yr d).1.1 N:=TY (x:={x with wr:=(WD.close (x.wr,d)).1.1}) ⟨⟨wa _ h.k.wr,h.k.dir,h.k.sum⟩,h.pl,h.cf⟩ _;have h2:xN (oC (x.Yr d)).1.1 N:=by
     unfold oC;split
     ·unfold fJ.mg2;dsimp only;have hk:((x.Yr d).1.1).cK=x.cK:=U;have RT:(x.Yr d).1.2=(WD.close (x.wr,d)).1.2:=U;have hko:=Zq (lu (x.Yr d).1.2 (x.Yr d).1.1.cK).1.all;rw[hk,RT]at hko ⊢;have hu:=AV hm.1.ok;exact⟨⟨h1.k.wr,hko.1,aj (Nat.le_of_mul_le_mul_left (aj hko.2 (by omega:_<=9*1400000)) de) hN⟩,as8 (E8 hm.1.ok),h1.cf⟩
     ·exact h1
    exact⟨⟨Zt h2.cf,h2.k.dir,h2.k.sum⟩,h2.pl,h2.cf⟩
 ·split
  ·exact(lv.refl hd).mono av
  ·split
   ·exact(lv.refl hd).mono av
   ·unfold oC;dsimp only;split
    ·exact hcm.mono av
    ·exact hc.mono av
 ·split
  ·(constructor<;>first|decide|(dsimp only;decide))
  ·split
   ·(constructor<;>first|decide|(dsimp only;decide))
   ·unfold oC;dsimp only;split
    ·exact hm.2
    ·exact L7 _
def Um(l:List Src):Nat:=(l.map λs=>s.fk.length).sum
theorem bq4(s:Src):9*(gM s).length<=s.data.length+9*s.fk.length:=by
 grind [gM,vm,aZ]
theorem Zu(l:List Src):9*jO l<=iF l+8*Um l:=by
 unfold jO iF Um;induction l with
 |nil=>exact ar _
 |cons x r ih=>
  simp only[aK,eC];have:=bq4 x;omega
theorem Zv{l:List bn}{f:bn}{s:Src}(h:pB l f=some s):9*s.fk.length<=f.data.length:=by
 grind [pB,gq,iC,E0]
theorem a97:iF (tb l)+8*Um (tb l)<=2*aZ l:=by
 have key:∀(L l:List bn),iF (l.filterMap (pB L))+8*Um (l.filterMap (pB L))<=2*aZ l:=by
  intro L l;induction l with
  |nil=>exact al _
  |cons f r ih=>
   have h1:aZ (f::r)=f.data.length+aZ r:=KD;rw[h1,eI];split
   ·omega
   ·rename_i s hs
    have a1:=xk hs
    have a2:=Zv hs
    grind [iF,Um]
 exact key l l
theorem Zw(fs:List bn):∀l,Um (qG l fs)=Um l:=by
 induction fs with
 |nil=>exact λ_=>rfl
 |cons f r ih=>
  intro l
  refine(ih (l.map (thenS f))).trans ?_
  grind [Um,bQ,Ez]
theorem Zx{l l':List Src}(h:l'.map Src.rest=l.map Src.rest):Um l'=Um l:=by
 have e:∀l:List Src,Um l=((l.map Src.rest).map λx=>x.2.2.length).sum:=λl=>by unfold Um;rw[cz];rfl
 rw[e,e,h]
theorem E9{l:List bn}{f:bn}(h:f∈l):f.data.length<=aZ l:=by
 induction l<;>grind [aZ]
theorem Pa{l:List bn}{z:Mk×dR}(h:pj l cap=.ok z):z.2.ok/\dI z.2<=1400000/\z.2.pl/\∃ts,fI l cap ts=.ok z.1:=by
 unfold pj at h;split at h
 ·cases h
 ·rename_i ha;obtain⟨py,HU,hm3⟩:=xj (Lq ha);split at h
  ·cases h
  ·rename_i m hm;cases h;obtain⟨_,ZV,hr3⟩:=Ey hm;have jd:=Qo (zi py).2;have qV:=zh jd;have hno:((iN (tb l)).map (·.no)).Nodup:=by
    have e:(iN (tb l)).map (·.no)=(tb l).map (·.no):=by
     have:=congrArg (List.map λx:UInt32×Bs×List Ptr=>x.1) qV;rw[cz,cz]at this;exact this
    grind
   have h1:=Zo (qG (iN (tb l)) (pA m.now));have h2:=EB (pA m.now) (iN (tb l)) hno;have h3:=uZ qV;have h4:=Zx qV;have h5:=Zw (pA m.now) (iN (tb l));have h6:=a97 l;have h7:=nx m.now;have h8:=Zu (qG (iN (tb l)) (pA m.now));have h9:=vN (qG (iN (tb l)) (pA m.now));refine⟨h1.1,?_,?_,_,hm⟩
   ·refine pQ _ _ _ ?_;have:=h9.2;have:=h2.2;omega
   ·refine Zg (Zh (O5 (at2 λf hf=>?_)) λf hf=>?_)
    ·have:=E9 hf;omega
    ·have:=E9 hf;omega
theorem zF{α:Type}{f:Mk->α->Except Int Mk}{d:Nat}:∀(l:List α) (m m':Mk),(∀x∈l,∀m m',f m x=.ok m'->m'.bz<=m.bz+d)->kR f l m=.ok m'->m'.bz<=m.bz+d*l.length
 |[],m,m',_,e=>by cases e;exact ar _
 |x::r,m,m',h,e=>by
  unfold kR at e;split at e
  ·cases e
  ·rename_i m1 h1
   have h2:=zF r m1 m' (λy hy=>h y U8) e
   have h3:=h x nH _ _ h1
   grind [Nat.mul_succ]
theorem Fa:∀(l:List Nat) (x:Nat),x∈l->x<=l.sum
 |y::r,x,h=>by
  rw[eC];rcases bK.1 h with rfl|h
  ·omega
  ·have:=Fa r x h;omega
theorem T0{l:List bn}(e:fI l cap ts=.ok m):m.bz<=9000000*l.length:=by
 have hl:∀x∈vY 1 l,x.iD.data.length<=4194304:=by
  intro x hx;have h1:lI l=true/\(aZ l:Int)<=cap/\cap<=4194304:=xj (ts:=ts) bE;have h2:=L2 1 l;have h3:x.iD.data.length∈(vY 1 l).map λx=>x.iD.data.length:=bj.2 ⟨x,hx,U⟩;have h4:x.iD.data.length<=((vY 1 l).map λx=>x.iD.data.length).sum:=Fa _ _ h3;omega
 unfold fI at e;split at e
 ·cases e
 ·split at e
  ·cases e
  ·rename_i m1 h1;split at e
   ·cases e
   ·rename_i m2 h2
    have k1:=zF (d:=0) _ _ _ (λx _ m m' e=>(nj e).bz) h1
    have k2:=zF (d:=9000000) _ _ _ (λx hx m m' e=>by
     unfold rb at e
     split at e
     ·grind
     ·split at e
      ·cases e
      ·rename_i m3 h3;cases e;exact(A5 (hl x hx) h3).bz) h2
    have k3:=zF (d:=0) _ _ _ (λx _ m m' e=>by
     unfold qB at e
     split at e
     ·grind
     ·split at e
      ·cases e
      ·rename_i m3 h3;cases e;exact(nj h3).bz) e
    grind [y8]
structure Ops(d:be)(r:be×Except Int Z8):Prop where
 go:lv d r.1 4194306
 er:∀e,r.2=.error e->eS e
 dir:∀z,r.2=.ok z->z.dir.ok/\dI z.dir<=1400000/\z.dir.pl/\z.bz<=9000000*d.files.length/\z.cD<=4194304
theorem Jb(h:d.ok)(e:fI d.all d.cap ts=.ok m):lv d (d.ml m.steps).1 4194305/\m.cD<=4194304/\m.bz<=9000000*d.files.length:=by
 have h1:=TQ e;have h2:=AV h;have h3:=T0 e;rw[oG]at h3;exact⟨(QG h h1.1).mono av,by omega,h3⟩
theorem Zy(h:d.ok):Ops d (s6 d):=by
 unfold s6;split
 ·exact bu1
 ·split
  ·rename_i e he;refine⟨(lv.refl h).mono av,λe' FD=>?_,λz hz=>by cases hz⟩;cases FD;rcases uU he with rfl|rfl<;>(constructor<;>first|decide|(dsimp only;decide))
  ·rename_i m hm;have h1:=Jb h hm;split
   ·exact bF5
   ·refine⟨h1.1.mono av,(λe he=>by cases he),λz hz=>?_⟩;cases hz;have h2:=Zp (d.ml m.steps).1.all;have h3:=AV h1.1.ok;exact⟨h2.1,by grind,as9 (E8 h1.1.ok),h1.2.2,h1.2.1⟩
theorem Zz(h:d.ok):Ops d (xl d):=by
 unfold xl;split
 ·exact bu1
 ·split
  ·rename_i e he;refine⟨(lv.refl h).mono av,λe' FD=>?_,λz hz=>by cases hz⟩;cases FD;unfold pj at he;split at he
   ·exact av9
   ·split at he
    ·rename_i e2 h2;cases he;rcases uU h2 with rfl|rfl<;>(constructor<;>first|decide|(dsimp only;decide))
    ·cases he
  ·rename_i z hz;obtain⟨h2,h3,h4,ts,h5⟩:=Pa hz;have h1:=Jb h h5;split
   ·exact bF5
   ·refine⟨h1.1.mono av,(λe he=>by cases he),λz hz=>?_⟩
    grind
theorem Md(h:d.ok)(jX:Bool):Ops d (kY d jX):=by
 grind [kY,Zz,Zy]
theorem at4(h:d.ok):lv d (kj d).1 0/\eS (kj d).2:=⟨I8 _ _ h,O9 _ _⟩
theorem Fb(h:d.ok)(cK every:Int)(jX:Bool):
 lv d (gR d cK every jX).1 4194306/\(∀e,(gR d cK every jX).2=.error e->eS e)/\
 ∀z,(gR d cK every jX).2=.ok z->xN z.1 1400000/\z.2.bz<=9000000*d.files.length/\z.2.cD<=4194304:=by
 have h1:=Md h jX
 have h2:=at4 h1.go.ok
 unfold gR
 split
 ·exact bu1
 ·rename_i hc;have hc:=Classical.not_not.1 hc;split
  ·rename_i e he;exact⟨h1.go,λe' FD=>by cases FD;exact h1.er e he,λz hz=>by cases hz⟩
  ·rename_i z hz;have h3:=h1.dir z hz;split
   ·exact⟨(h1.go.trans h2.1).mono av,λe he=>by grind,λz hz=>by cases hz⟩
   ·refine⟨(h1.go.trans h2.1).mono av,(λe he=>by cases he),λy hy=>?_⟩;cases hy;exact⟨⟨⟨by
     have:=hc.2.1;have:=hc.2.2.2;exact⟨by grind,by grind,by grind,ar _,ar _⟩,h3.1,h3.2.1⟩,h3.2.2.1,hc⟩,h3.2.2.2⟩
theorem Me:∀(r:List bn) (l fs:List (Bs×bF)),laid r l=some fs->(l.map (·.1)).Nodup->(∀x∈l,x.2.last<=x.2.data.length)->(fs.map (·.1)).Nodup/\(∀x∈fs,x.2.last<=x.2.data.length)/\fs.length=l.length+r.length/\∀x∈fs,x∈l\/x.1∈r.map (·.name)
 |[],l,fs,h,hn,hl=>by
  cases h
  grind
 |x::r,l,fs,h,hn,hl=>by
  unfold laid at h;split at h
  ·cases h
  ·rename_i hx
   obtain⟨a,b,c,d⟩:=Me r _ _ h (by
    grind) (λy hy=>by
    grind)
   grind
theorem Mf{l:List bn}{s:be}(h:oT cap l=(some s,e)):s.ok/\s.files.length<=200:=by
 unfold oT at h;split at h
 ·cases h
 ·rename_i h1;split at h
  ·cases h
  ·rename_i fs hf;split at h
   ·cases h
   ·rename_i h2
    cases h
    obtain⟨a,b,c,d⟩:=Me _ _ _ hf List.nodup_nil (λx hx=>by cases hx)
    have h3:l.any (λx=> !dy x.name)=false:=by
     grind
    rw[List.any_eq_false]at h3
    refine⟨⟨a,U,by grind,by grind,al _,al _,b,λx hx=>?_⟩,by grind⟩
    grind
theorem ZA(cap:Int)(l:List bn):eS (oT cap l).2:=by
 rcases EO cap l with(h|h|h)|⟨s,h⟩<;>rw[h]<;>(constructor<;>first|decide|(dsimp only;decide))
theorem by2(m:Dm)(d:be):eS (m.do d).2:=by
 unfold Dm.do
 split
 ·unfold Dm.ref;dsimp only;split<;>(try split)<;>(try split)<;>(constructor<;>first|decide|(dsimp only;decide))
 grind [ZA]
@[reducible] def jB.may(a:jB):Prop:=(∀n∈a.gx,n<=1000000000)/\(∀t∈a.texts,t.length<=100000)/\a.texts.length<=100000/\∀n k x,a=.dm (.flip n k x)->x<=255
structure mq.in(x:mq)(p n:Nat):Prop where
 ok:x.fZ.ok
 P:x.fZ.P<=p
 L:x.fZ.L<=200
 p2:200<=p
 n1:1400000<=n
 st:∀s,x.zz=some s->xN s n
def jB.y:jB->Nat
 |.ma ..=>14|.put ..=>4|.del ks=>4+2*ks.length|.merge=>4|_=>0
theorem mq.in.step{x:mq}(h:x.in p n)(hd:lv x.fZ d j){s:Option fJ}{p' n':Nat}(hp:p+j<=p')(hn:n<=n')(hs:∀t,s=some t->xN t n'):mq.in ⟨d,s⟩ p' n':=
 ⟨hd.ok,by have:=hd.P;have:=h.P;grind,aj hd.L h.L,by have:=h.p2;omega,aj h.n1 hn,hs⟩
theorem mq.in.new{x:mq}{p' n':Nat}(h:x.in p n)(hp:p<=p')(hn:n<=n'){q:Option be×Int}(hq:∀s e,q=(some s,e)->s.ok/\s.files.length<=200):(x.new q).1.in p' n':=by
 have h0:x.in p' n':=⟨h.ok,aj h.P hp,h.L,aj h.p2 hp,aj h.n1 hn,λs hs=>(h.st s hs).mono hn⟩;unfold mq.new;split
 ·rename_i d;obtain⟨h1,h2⟩:=hq d 0 U;exact⟨h1,aj (a68 d.files) (by have:=h0.p2;omega),aj (List.countP_le_length (l:=d.files)) h2,h0.p2,h0.n1,λs hs=>by cases hs⟩
 ·exact h0
theorem a'0(m:Dm)(d:be):∀s e,m.do d=(some s,e)->s.ok/\s.files.length<=200:=by
 grind [Dm.do,Mf]
theorem QO(h:d.ok)(k:Int)(hk:k<=1000000000):lv d (d.fail k).1 0/\eS (d.fail k).2:=by
 unfold be.fail;split
 ·exact aI6
 ·exact⟨⟨⟨h.nd,h.vX,h.le,h.cap,by grind,h.ba,h.last,h.name⟩,ar _,ar _⟩,by constructor<;>first|decide|(dsimp only;decide)⟩
theorem Mg(h:d.ok)(k:Int)(dn:Bool)(hk:k<=1000000000):lv d (d.break k dn).1 0/\eS (d.break k dn).2:=by
 unfold be.break;split
 ·exact aI6
 ·exact⟨⟨⟨h.nd,h.vX,h.le,h.cap,h.fa,by grind,h.last,h.name⟩,ar _,ar _⟩,by constructor<;>first|decide|(dsimp only;decide)⟩
theorem Gc{x:mq}(h:x.in p n)(ha:a.may):(x.do a).1.in (p+300000*a.y) (n+a.y):=by
 have hd:=h.ok;have ask:∀(f:fJ->(fJ×be)×Bs) (j p' n':Nat),p+j<=p'->n<=n'->(∀s,xN s n->xN (f s).1.1 n'/\lv x.fZ (f s).1.2 j)->(x.tA f).1.in p' n':=by
  intro f j p' n' hp hn hf;unfold mq.tA;cases hs:x.zz with
  |none=>exact⟨h.ok,aj h.P av,h.L,by have:=h.p2;omega,aj h.n1 hn,λs h2=>by grind⟩
  |some s=>
   obtain⟨h1,h2⟩:=hf s (h.st s hs);exact h.step h2 hp hn λt ht=>by grind
 cases a with
 |LU k=>exact h.new (aT _ _) (aT _ _) λs e he=>Mf he
 |ma t k1 k2=>
  obtain⟨h1,_,h3⟩:=Fb hd k1 k2 (t==kC);refine h.step h1 (show p+4194306<=p+300000*14 by omega) (aT _ _) λs hs=>?_;split at hs
  ·rename_i z hz;cases hs;exact(h3 z hz).1.mono (by have:=h.n1;omega)
  ·cases hs
 |put k v=>
  exact ask _ 1 _ _ (show p+1<=p+300000*4 by omega) (aT _ _) λs hs=>by
   obtain⟨a,b,_⟩:=Ja hs hd k v;exact⟨a.mono (show n+1<=n+4 by omega),b⟩
 |del ks=>
  exact ask _ ks.length _ _ (show p+ks.length<=p+300000*(4+2*ks.length) by omega) (aT _ _) λs hs=>by
   obtain⟨a,b,_⟩:=xu hs hd ks;exact⟨a.mono (show n+ks.length<=n+(4+2*ks.length) by omega),b⟩
 |get k=>exact ask _ 0 _ _ (aT _ _) (aT _ _) λs hs=>⟨hs.mono (aT _ _),(CD hd k).1⟩
 |sync=>
  exact ask _ 0 _ _ (aT _ _) (aT _ _) λs hs=>by
   obtain⟨a,b,_⟩:=E6 hs hd;exact bC0
 |merge=>
  exact ask _ 1000001 _ _ (show p+1000001<=p+300000*4 by omega) (aT _ _) λs hs=>by
   obtain⟨a,b,_⟩:=AW hs h.n1 hd;exact bC0
 |close=>
  exact ask _ 0 _ _ (aT _ _) (aT _ _) λs hs=>by
   obtain⟨a,b,_⟩:=AU hs hd;exact bC0
 |keys=>exact ask _ 0 _ _ (aT _ _) (aT _ _) λs hs=>⟨hs.mono (aT _ _),lv.refl hd⟩
 |all=>exact ask _ 0 _ _ (aT _ _) (aT _ _) λs hs=>⟨hs.mono (aT _ _),(zD s s.keys x.fZ hd).1⟩
 |last=>exact ask _ 0 _ _ (aT _ _) (aT _ _) λs hs=>⟨hs.mono (aT _ _),lv.refl hd⟩
 |fail k=>exact h.step (QO hd k at5).1 (aT _ _) (aT _ _) λt ht=>(h.st t ht).mono (aT _ _)
 |brk k t=>exact h.step (Mg hd k _ at5).1 (aT _ _) (aT _ _) λt ht=>(h.st t ht).mono (aT _ _)
 |ji k=>exact h.step (Zd hd k) (aT _ _) (aT _ _) λt ht=>by cases ht
 |dm m=>exact h.new (aT _ _) (aT _ _) (a'0 m x.fZ)
 |files=>exact h
 |read t=>exact h
 |used=>exact h
theorem Mh{x:mq}(h:x.in p n):x.fZ.files.length<=p+4194304:=bF6
theorem lv.files{t:be}(h:lv d t j):t.files.length<=d.P+j+4194304:=bF6
theorem at6(h:s.may=true):s.key.length<=64:=by
 grind [Seen.may]
theorem ZC{d:dR}(h:d.ok)(k:Bs):∀s∈kQ d k,s.key.length<=64:=by
 intro s hs;unfold kQ at hs;cases hf:d.find? (λx=>decide (x.1=k))with
 |none=>grind
 |some x=>rw[hf]at hs;exact at6 (h.may x (Y hf) s hs).2
theorem at7{d:dR}(h:d.ok)(k:Bs):(d.get k).1.key.length<=64:=by
 have hz:Seen.zero.key.length<=64:=de
 have hl:(d.last k).1.key.length<=64:=by
  unfold dR.last;split
  ·exact hz
  ·rename_i me;split
   ·exact hz
   ·have h1:=BB me;exact ZC h k _ (dZ.1 h1).1
 grind [dR.get]
theorem vS{s:fJ}(h:xN s n):s.keys.length<=n/\∀k∈s.keys,k.length<=64:=by
 unfold fJ.keys
 split
 ·grind
 ·unfold dR.keys;refine⟨?_,λk hk=>?_⟩
  ·rw[aA];exact aj (Ec _) (aj (yW _ h.k.dir.ne) h.k.sum)
  ·obtain⟨z,hz,rfl⟩:=bj.1 hk;unfold dR.live dR.tM at hz;obtain⟨q,hq,he⟩:=List.mem_filterMap.1 hz;split at he
   ·cases he;exact at7 h.k.dir q
   ·cases he
theorem Mz{x:mq}(h:x.in p n)(hp:p<=40000000000)(hn:n<=100000000)(ha:a.may):x.pre a:=by
 have hf:=Mh h;have hd:=h.ok;have hP:=h.P;refine⟨ha.1,by omega,?_⟩;cases a with
 |ma t k1 k2=>
  obtain⟨h1,h2,h3⟩:=Fb hd k1 k2 (t==kC);refine⟨λm hm=>?_,?_,λz hz=>?_,λe he=>(h2 e he).ok⟩
  ·have:=(Jb hd hm).1.files;omega
  ·have:=(Md hd (t==kC)).go.files;omega
  ·obtain⟨a,b,c⟩:=h3 z hz;exact⟨aj a.k.sum de,aj (vS a).1 de,by omega,by omega⟩
 |put k v=>
  intro s hs;have h1:=h.st s hs;exact⟨h1.k.wr,by have:=h1.k.sum;omega,(Ja h1 hd k v).2.2.ok⟩
 |del ks=>
  refine⟨ha.2.2.1,λs hs=>?_⟩;have h1:=h.st s hs;exact⟨n,h1.k,by grind,(xu h1 hd ks).2.2.ok⟩
 |get k=>
  intro s hs;have h1:=h.st s hs;obtain⟨_,a,b⟩:=CD (x:=s) hd k;exact⟨by have:=h1.k.sum;omega,(Ze h1.pl k).ok,a.ok,by omega⟩
 |sync=>exact λs hs=>(E6 (h.st s hs) hd).2.2.ok
 |merge=>
  intro s hs;have h1:=h.st s hs;obtain⟨_,_,a,b,c,e⟩:=AW h1 h.n1 hd;refine⟨h1.cf,by have:=b.files;omega,?_,a.ok⟩;have h5:=Qx c;have h6:=c.le;have h7:=c.cap;omega
 |close=>exact λs hs=>(AU (h.st s hs) hd).2.2.ok
 |keys=>
  intro s hs;have h1:=h.st s hs;have h2:=vS h1;exact⟨by have:=h1.k.sum;omega,by omega,λk hk=>aj (h2.2 k hk) de⟩
 |all=>
  intro s hs;have h1:=h.st s hs;have h2:=vS h1;obtain⟨_,a,b⟩:=zD s s.keys x.fZ hd;have e:s.all x.fZ=jY s s.keys x.fZ:=U;rw[e];exact⟨by have:=h1.k.sum;omega,λk=>(Ze h1.pl k).ok,by omega,by omega,λy hy=>⟨aj (h2.2 _ (b y hy).1) de,aj (b y hy).2 de⟩⟩
 |dm m=>grind
 |used=>exact aj h.ok.le h.ok.cap
 |_=>trivial
theorem km(h:eS e):(gF e).length<=27:=by
 have h0:=h.1;have h1:=h.2;have hl:=dG e av av;unfold gF;split
 ·exact(by decide:2<=27)
 ·rw[aG];have:([101,114,114,111,114,32]:Bs).length=6:=U;omega
theorem sr{s:Bs}{k:Nat}(h:s.length<=k):(iV s).length<=3*k+1:=by grind [kl]
theorem T1(h:d.ok):(pw d.all).length<=5+24*d.P+44*d.used+200*d.L:=by
 have h1:((d.all.map tT).map dq).sum=(d.files.map λx=>(tT ⟨x.1,x.2.data⟩).length).sum:=by
  unfold be.all be.told be.names;rw[cz,cz];have h1:=((iK (d.files.map (·.1))).map ((dq∘tT)∘tL d λf=>f.data.length)).sum_nat;exact ag4
 have h2:∀l:List bn,(l.flatMap tT).length=((l.map tT).map dq).sum:=bE
 unfold pw
 rw[aG,h2,h1]
 rw[h.vX]
 unfold be.P be.L zB lg gf
 have key:∀l:List (Bs×bF),(∀x∈l,x.2.last<=x.2.data.length/\dy x.1=true/\x.2.data.length<=4194304)->(l.map λx=>(tT ⟨x.1,x.2.data⟩).length).sum<=24*(l.countP λx=>x.2.last==0)+44*(l.map λx=>x.2.data.length).sum+200*(l.countP λx=>decide (21<(iV x.1).length)):=by
  intro l;induction l with
  |nil=>grind
  |cons x r ih=>
   intro hl;have h1:=ih λy hy=>hl y U8;obtain⟨h2,h3,h4⟩:=hl x nH;have h5:x.1.length<=60:=by grind [dy]
   have h6:=sr h5;have h7:=dG (x.2.data.length:Int) av av;have h8:(tT ⟨x.1,x.2.data⟩).length=(iV x.1).length+(gK (x.2.data.length:Int)).length+2:=by
    unfold tT;rw[ax,aG,ax];dsimp only;omega
   rw[List.countP_cons,List.countP_cons,aK,eC,aK,eC];by_cases h9:x.2.data.length=0
   ·have Ml:x.2.last=0:=by omega
    have h11:(gK (x.2.data.length:Int)).length=1:=by rw[h9];first|decide|rfl|(simp[gK,gT])|(simp[gK,Lib.decDigits_length,fQ])
    simp only[Ml,beq_self_eq_true,if_true];exact aA6
   ·exact aA6
 have h3:=key d.files λx hx=>⟨h.last x hx,h.name x hx,aj (by
  have:x.2.data.length<=gf d.files:=by unfold gf;exact Fa _ _ (bj.2 ⟨x,hx,U⟩)
  rw[<-h.vX]at this;exact aj this h.le) h.cap⟩
 grind
def jB.f:jB->Nat
 |.files=>1|_=>0
def jB.x:jB->Nat
 |.ma ..=>0|.put ..=>0|.del _=>0|.merge=>0|.files=>0|_=>4
theorem MV{x:mq}(h:x.in p n)(hn:n<=1450000)(hp:p<=40000000000)(ha:a.may):(x.do a).2.length+1<=a.f*(24*p+190000000)+2400000000*a.x+110*a.y:=by
 have hd:=h.ok;have Un:∀{m:Nat},m+1<=9600000000->m+1<=0*(24*p+190000000)+2400000000*4+110*0:=λh=>by rw[Nat.zero_mul,aQ];exact aj h de
 have ask:∀(f:fJ->(fJ×be)×Bs) (K:Nat),5<=K->(∀s,xN s n->(f s).2.length+1<=K)->(x.tA f).2.length+1<=K:=by
  intro f K hK hf;unfold mq.tA;cases hs:x.zz with
  |none=>exact hK
  |some s=>exact hf s (h.st s hs)
 have new:∀q:Option be×Int,eS q.2->(x.new q).2.length<=27:=λq hq=>km hq;cases a with
 |LU k=>exact Un (aj (fu (new _ (ZA k []))) de)
 |ma t k1 k2=>
  obtain⟨_,h2,h3⟩:=Fb hd k1 k2 (t==kC);have hl:(BJ (gR x.fZ k1 k2 (t==kC)).2).length<=100:=by
   cases hr:(gR x.fZ k1 k2 (t==kC)).2 with
   |error e=>exact aj (km (h2 e hr)) de
   |ok z=>
    obtain⟨a,b,c⟩:=h3 z hr;have hk:=(vS a).1;have hP:=h.P;have hu:=h.ok.le;have hc:=h.ok.cap;have l1:=dG (z.1.keys.length:Int) av av;have l2:=CA z.2.top;have PA:=Mh h;have l3:=dG (z.2.bz:Int) av av;have l4:=dG (z.2.cD:Int) av av;unfold BJ;simp only[aG,ax,aR];omega
  show(BJ (gR x.fZ k1 k2 (t==kC)).2).length+1<=0*(24*p+190000000)+2400000000*0+110*14;omega
 |put k v=>
  have:=ask (λs=>((s.put x.fZ k v).1,gF (s.put x.fZ k v).2)) 28 de λs hs=>fu (km (Ja hs hd k v).2.2);show(x.tA λs=>((s.put x.fZ k v).1,gF (s.put x.fZ k v).2)).2.length+1<=0*(24*p+190000000)+2400000000*0+110*4;omega
 |del ks=>
  have:=ask (λs=>((s.delete x.fZ ks).1,gF (s.delete x.fZ ks).2)) 28 de λs hs=>fu (km (xu hs hd ks).2.2);show(x.tA λs=>((s.delete x.fZ ks).1,gF (s.delete x.fZ ks).2)).2.length+1<=0*(24*p+190000000)+2400000000*0+110*(4+2*ks.length);omega
 |get k=>
  refine aj (ask _ 10000 de λs hs=>?_) (aj (by decide:10000<=9600000000) (by have:∀q,9600000000<=0*q+2400000000*4+110*0:=(λq=>by omega);exact this _));obtain⟨_,a,b⟩:=CD (x:=s) hd k;dsimp only;unfold aq6;split
  ·have:=km a;omega
  ·split
   ·decide
   ·have:=sr b;exact aB2
 |sync=>exact Un (aj (ask _ 28 de λs hs=>fu (km (E6 hs hd).2.2)) de)
 |merge=>
  have:=ask (λs=>((s.merge x.fZ).1,gF (s.merge x.fZ).2)) 28 de λs hs=>fu (km (AW hs h.n1 hd).2.2.1);show(x.tA λs=>((s.merge x.fZ).1,gF (s.merge x.fZ).2)).2.length+1<=0*(24*p+190000000)+2400000000*0+110*4;omega
 |close=>exact Un (aj (ask _ 28 de λs hs=>fu (km (AU hs hd).2.2)) de)
 |keys=>
  refine Un (aj (ask _ 9600000000 de λs hs=>?_) (ar _));obtain⟨a,b⟩:=vS hs;have:=sj (λk=>32::iV k) 194 s.keys λk hk=>by
   rw[ax];have:=sr (b k hk);omega
  dsimp only;unfold wD;rw[aG];have:([107,101,121,115]:Bs).length=4:=U;omega
 |all=>
  refine Un (aj (ask _ 9600000000 de λs hs=>?_) (ar _));obtain⟨a,b⟩:=vS hs;obtain⟨_,c,e⟩:=zD s s.keys x.fZ hd;have e0:s.all x.fZ=jY s s.keys x.fZ:=U;have:=sj (λx:Bs×Bs=>32::(iV x.1++32::iV x.2)) 6500 (jY s s.keys x.fZ).1 λy hy=>by
   obtain⟨e1,e2⟩:=e y hy;have h1:=sr (b _ e1);have h2:=sr e2;rw[ax,aG,ax];omega
  dsimp only;rw[e0];unfold F6;rw[aG];have:([97,108,108]:Bs).length=3:=U;omega
 |last=>
  refine Un (aj (ask _ 28 de λs hs=>?_) de);have:=CA s.last;dsimp only;rw[aG];have:([108,97,115,116,32]:Bs).length=5:=U;omega
 |fail k=>exact Un (aj (fu (km (QO hd k at5).2)) de)
 |brk k t=>exact Un (aj (fu (km (Mg hd k (t==tw) at5).2)) de)
 |ji k=>exact Un (by show 2+1<=_;decide)
 |dm m=>exact Un (aj (fu (new _ (by2 m x.fZ))) de)
 |files=>
  have h1:=T1 hd;have h2:=h.P;have h3:=h.L;have h4:=hd.le;have h5:=hd.cap;show(pw x.fZ.all).length+1<=1*(24*p+190000000)+2400000000*0+110*0;omega
 |read t=>
  refine Un (aj (fu (?_:_<=13000000)) de);have key:∀l:List bn,(∀f∈l,f.data.length<=4194304)->(vf t l).length<=13000000:=by
   intro l;induction l with
   |nil=>exact λ_=>aj (km (e:=71) (by constructor<;>decide)) de
   |cons f r ih=>
    intro hl;unfold vf;split
    ·have:=sr (hl f nH);exact aB2
    ·exact ih λg hg=>hl g (by simp[hg])
  exact key _ (E8 hd)
 |used=>
  refine Un (aj (fu (?_:_<=30)) de);have h4:=hd.le;have h5:=hd.cap;have:=dG (x.fZ.used:Int) av av;show([117,115,101,100,32]++gK x.fZ.used).length<=30;rw[aG];have:([117,115,101,100,32]:Bs).length=5:=U;omega
def zG(l:List jB):Nat:=(l.map jB.y).sum
def T2(l:List jB):Nat:=(l.map jB.x).sum
def T3(l:List jB):Nat:=(l.map jB.f).sum
theorem Be:∀(l:List jB) {x:mq} {p n:Nat},x.in p n->(∀a∈l,a.may)->p+300000*zG l<=40000000000->n+zG l<=100000000->x.kS l
 |[],_,_,_,_,_,_,_=>trivial
 |a::r,x,p,n,h,ha,hp,hn=>by
  have e:zG (a::r)=a.y+zG r:=by unfold zG;rw[aK,eC]
  rw[e]at hp hn;have h1:=ha a nH;exact⟨Mz h av av h1,Be r (Gc h h1) (λb hb=>ha b (by simp[hb])) av av⟩
theorem Bb:∀(l:List jB) {x:mq} {p n:Nat},x.in p n->(∀a∈l,a.may)->p+300000*zG l<=40000000000->n+zG l<=1450000->(x.outs l).length<=T3 l*(24*(p+300000*zG l)+190000000)+2400000000*T2 l+110*zG l
 |[],_,_,_,_,_,_,_=>al _
 |a::r,x,p,n,h,ha,hp,hn=>by
  have e:zG (a::r)=a.y+zG r:=by grind [zG]
  have e2:T2 (a::r)=a.x+T2 r:=by grind [T2]
  have e3:T3 (a::r)=a.f+T3 r:=by grind [T3]
  rw[e]at hp hn
  have h1:=ha a nH
  have h2:=MV h av av h1
  have h3:=Bb r (Gc h h1) (λb hb=>ha b (by simp[hb])) av av
  rw[e,e2,e3]
  grind [mq.outs]
@[reducible] def jB.wt:jB->Nat
 |.files=>6|.ma ..=>14|.del ks=>4+2*ks.length|_=>4
theorem bq5(a:jB):a.wt=6*a.f+a.y+a.x:=by
 cases a with
 |del ks=>show 4+2*ks.length=6*0+(4+2*ks.length)+0;omega
 |_=>rfl
theorem Pb:∀l:List jB,(l.map jB.wt).sum=6*T3 l+zG l+T2 l
 |[]=>rfl
 |a::r=>by
  have h:=Pb r;have h2:=bq5 a;unfold T3 zG T2 at*;simp only[aK,eC];omega
theorem at8{f y x:Nat}(h:6*f+y+x<=20001):f*(24*(200+300000*y)+190000000)+2400000000*x+110*y<=140737488355328:=by
 have h1:f*(24*(200+300000*y)+190000000)=7200000*(f*y)+190004800*f:=by
  grind
 rw[h1]
 have h2:4*(6*f)*y<=(6*f+y)*(6*f+y):=by
  have h3:((6*f:Nat) - y:Int)*((6*f:Nat) - y:Int)≥0:=by
   rcases Int.le_total 0 ((6*f:Nat) - y:Int)with h|h
   ·exact Int.mul_nonneg h h
   ·exact Int.mul_nonneg_of_nonpos_of_nonpos h h
  grind
 have h3:(6*f+y)*(6*f+y)<=20001*(6*f+y):=cX _ av
 grind
theorem QP:tB.in 200 1400000:=⟨⟨List.nodup_nil,U,by decide,by decide,by decide,by decide,λx hx=>ua,λx hx=>ua⟩,al _,al _,ar _,ar _,λs hs=>by cases hs⟩
theorem T4{l:List jB}(hl:∀a∈l,a.may)(hw:(l.map jB.wt).sum<=100000):tB.kS l:=by
 grind [Pb,Be,QP]
theorem Hv{l:List jB}(hl:∀a∈l,a.may)(hw:(l.map jB.wt).sum<=20001):(tB.outs l).length<=140737488355328:=by
 rw[Pb]at hw;exact aj (Bb l QP hl av av) (at8 hw)
def jG:List Bs->Nat
 |[]=>0
 |x::r=>x.length+1+jG r
theorem re(h:ja ([110]::ns) c rest=.ok c'):∃x r,rest=x::r/\tr x=true/\ja ns {c with gx:=c.gx++[rE x]} r=.ok c':=by
 unfold ja EJ at h
 grind
theorem at9(h:ja ([120]::ns) c rest=.ok c'):∃x r y,rest=x::r/\zr x=.ok y/\ja ns {c with gx:=c.gx++[y]} r=.ok c':=by
 unfold ja EJ at h
 grind
theorem lZ(h:ja ([116]::ns) c rest=.ok c'):∃x r y,rest=x::r/\wC x=.ok y/\ja ns {c with texts:=c.texts++[y]} r=.ok c':=by
 unfold ja EJ at h
 grind
theorem au0(h:ja ([84]::ns) c rest=.ok c'):∃y,mL rest=.ok y/\rest≠[]/\ja ns {c with texts:=c.texts++y} []=.ok c':=by
 unfold ja EJ at h
 grind
theorem QQ{nd:Bs}(d1:nd≠[110])(d2:nd≠[120])(d3:nd≠[116])(d4:nd≠[84])(h:ja (nd::ns) c rest=.ok c'):∃x r,rest=x::r/\x∈splitB 124 nd/\ja ns {c with texts:=c.texts++[x]} r=.ok c':=by
 unfold ja EJ at h
 grind
theorem eK(h:ja [] c rest=.ok c'):rest=[]/\c=c':=by
 grind [ja]
theorem QR{x:Bs}(h:tr x=true):1<=x.length/\x.length<=9:=by
 grind [tr]
theorem QS:∀(l:Bs) (acc n:Nat),Lib.decFrom acc l=some n->n<(acc+1)*10^l.length
 |[],acc,n,h=>by
  grind [Lib.decFrom]
 |x::r,acc,n,h=>by
  rw[Lib.decFrom]at h;cases hd:Lib.digitVal x with
  |none=>grind
  |some d=>
   rw[hd]at h
   have h0:d<=9:=by
    grind [Lib.digitVal]
   have h2:=QS r _ n h
   have h3:acc*10+d+1<=(acc+1)*10:=av
   have h4:=cX (10^r.length) h3
   grind
theorem ZD(h:tr w=true):Lib.decFrom 0 w=some (rE w):=by
 have h0:=IW w h;simp only[tr,Bool.and_eq_true,decide_eq_true_eq,ef]at h;obtain⟨⟨⟨h1,_⟩,h2⟩,_⟩:=h;cases w with
 |nil=>simp at h1
 |cons x r=>
  have hx:=h2 x nH
  obtain⟨n,hn⟩:=IV (x::r) 0 h2
  have e:Lib.atoi (x::r)=some (n:Int):=by
   have h45:(x==45)=false:=Xd
   have h43:(x==43)=false:=Xd
   grind [Lib.atoi,Lib.decNat]
  grind
theorem tC{x:Bs}(h:tr x=true):rE x<1000000000:=by
 have h1:=QS x 0 _ (ZD h);have h2:=(QR h).2;have h3:10^x.length<=10^9:=Nat.pow_le_pow_right de h2;omega
theorem QT{x:Bs}(h:zr x=.ok n):n<=255:=by
 unfold zr at h;split at h
 ·rename_i a b;split at h
  ·cases h;have h1:=vQ a;have h2:=vQ b;omega
  ·cases h
 ·cases h
theorem Hw:∀(f:Nat) (w q:Bs),sg f w=.ok q->q.length<=w.length
 |0,w,q,h=>by cases h
 |f+1,[],q,h=>by cases h;exact ar _
 |f+1,c::r,q,h=>by
  rw[sg]at h;split at h
  ·exact bF7
  ·split at h
   ·split at h
    ·exact bF7
    ·cases h
   ·cases h
theorem su{q:Bs}(h:wC w=.ok q):q.length<=w.length:=by
 unfold wC at h
 split at h
 ·grind
 ·exact Hw _ _ _ h
theorem AX:∀(l:List Bs) (y:List Bs),mL l=.ok y->y.length=l.length/\∀t∈y,t.length<=jG l
 |[],y,h=>by cases h;grind
 |x::r,y,h=>by
  unfold mL at h;split at h
  ·cases h
  ·rename_i q hq;split at h
   ·rename_i l hl
    cases h
    obtain⟨a,b⟩:=AX r l hl
    have:=su hq
    grind [jG]
   ·cases h
theorem aR1:∀(l:List Bs),(∀w∈l,w≠[])->2*l.length<=jG l
 |[],_=>ar _
 |x::r,h=>by
  have h1:=aR1 r λw hw=>h w (by simp[hw]);have h2:=fy.2 (h x nH);unfold jG;exact aJ4
end
section
variable{cs:List xM}{s:Bs}
theorem au1{l y:List Bs}(h:mL l=.ok y)(hl:jG l+l.length+5<=100000):(jB.del y).may:=by
 grind [AX]
theorem a'1{l y:List Bs}(h:mL l=.ok y)(hw:∀w∈l,w≠[]):(jB.del y).wt<=3+1+jG l:=by
 obtain⟨a,_⟩:=AX l y h
 grind [aR1]
theorem by3{x:Bs}(h:x∈splitB 124 [100,101,101,112,124,102,97,115,116]):4<=x.length:=by
 have e:splitB 124 [100,101,101,112,124,102,97,115,116]=[[100,101,101,112],[102,97,115,116]]:=de
 grind
theorem ZE{w:Bs}{r:List Bs}{c:xM}(h:tR (w::r)=.ok c)(hw:∀x∈r,x≠[])(hl:jG r+r.length+5<=100000):∃a:jB,a.cmd=c/\a.may/\a.wt<=jG (w::r):=by
 unfold tR at h
 dsimp only at h
 cases hs:B9 w with
 |none=>grind
 |some s=>
 rw[hs]at h
 dsimp only at h
 have hm:s∈Ty:=Y hs
 have hn:s.name=w:=by simpa using List.find?_some hs
 subst hn
 simp only[jG]
 unfold Ty at hm
 simp only[bK,List.not_mem_nil,or_false]at hm
 rcases hm with hm|hm|hm|hm|hm|hm|hm|hm|hm|hm|hm|hm|hm|hm|hm|hm|hm|hm|hm|hm|hm|hm|hm<;>subst hm<;>dsimp only at h ⊢<;>clear hs
 ·
  obtain⟨x0,r0,e0,n0,h'⟩:=re h
  obtain⟨hr,hc⟩:=eK h'
  subst e0
  subst hr
  simp only[jG,ax,aR]at hl
  refine⟨.LU (rE x0),hc,⟨?_,?_,?_,?_⟩,?_⟩
  ·grind [tC]
  ·grind
  all_goals grind
 ·
  obtain⟨x0,r0,e0,n0,h'⟩:=QQ (by decide) (by decide) (by decide) (by decide) h
  obtain⟨x1,r1,e1,n1,JQ⟩:=re h'
  obtain⟨x2,r2,e2,n2,h'''⟩:=re JQ
  obtain⟨hr,hc⟩:=eK h'''
  subst e0 e1 e2
  subst hr
  simp only[jG,ax,aR]at hl
  refine⟨.ma x0 (rE x1) (rE x2),hc,⟨?_,?_,?_,?_⟩,?_⟩
  ·grind [tC]
  ·grind
  all_goals grind [jG,by3,QR]
 ·
  obtain⟨x0,r0,y0,e0,n0,h'⟩:=lZ h
  obtain⟨x1,r1,y1,e1,n1,JQ⟩:=lZ h'
  obtain⟨hr,hc⟩:=eK JQ
  subst e0 e1
  subst hr
  simp only[jG,ax,aR]at hl
  refine⟨.put y0 y1,hc,⟨?_,?_,?_,?_⟩,?_⟩
  ·grind
  ·intro m hm
   simp only[jB.texts,Dm.texts,bK,List.not_mem_nil,or_false,false_or]at hm
   rcases hm with rfl|rfl
   ·have:=su n0;omega
   ·have:=su n1;omega
  all_goals grind
 ·
  obtain⟨y0,n0,z0,h'⟩:=au0 h
  obtain⟨hr,hc⟩:=eK h'
  refine⟨.del y0,hc,?_,?_⟩
  ·grind [au1]
  ·exact a'1 n0 hw
 ·
  obtain⟨x0,r0,y0,e0,n0,h'⟩:=lZ h
  obtain⟨hr,hc⟩:=eK h'
  subst e0
  subst hr
  simp only[jG,ax,aR]at hl
  refine⟨.get y0,hc,⟨?_,?_,?_,?_⟩,?_⟩
  ·grind
  ·intro m hm
   simp only[jB.texts,Dm.texts,bK,List.not_mem_nil,or_false,false_or]at hm
   rcases hm with rfl
   ·have:=su n0;omega
  all_goals grind
 ·
  obtain⟨hr,hc⟩:=eK h
  subst hr
  simp only[jG,ax,aR]at hl
  refine⟨.sync,hc,⟨?_,?_,?_,?_⟩,?_⟩
  ·grind
  ·grind
  all_goals grind
 ·
  obtain⟨hr,hc⟩:=eK h
  subst hr
  simp only[jG,ax,aR]at hl
  refine⟨.merge,hc,⟨?_,?_,?_,?_⟩,?_⟩
  ·grind
  ·grind
  all_goals grind
 ·
  obtain⟨hr,hc⟩:=eK h
  subst hr
  simp only[jG,ax,aR]at hl
  refine⟨.close,hc,⟨?_,?_,?_,?_⟩,?_⟩
  ·grind
  ·grind
  all_goals grind
 ·
  obtain⟨hr,hc⟩:=eK h
  subst hr
  simp only[jG,ax,aR]at hl
  refine⟨.keys,hc,⟨?_,?_,?_,?_⟩,?_⟩
  ·grind
  ·grind
  all_goals grind
 ·
  obtain⟨hr,hc⟩:=eK h
  subst hr
  simp only[jG,ax,aR]at hl
  refine⟨.all,hc,⟨?_,?_,?_,?_⟩,?_⟩
  ·grind
  ·grind
  all_goals grind
 ·
  obtain⟨hr,hc⟩:=eK h
  subst hr
  simp only[jG,ax,aR]at hl
  refine⟨.last,hc,⟨?_,?_,?_,?_⟩,?_⟩
  ·grind
  ·grind
  all_goals grind
 ·
  obtain⟨x0,r0,e0,n0,h'⟩:=re h
  obtain⟨hr,hc⟩:=eK h'
  subst e0
  subst hr
  simp only[jG,ax,aR]at hl
  refine⟨.fail (rE x0),hc,⟨?_,?_,?_,?_⟩,?_⟩
  ·grind [tC]
  ·grind
  all_goals grind
 ·
  obtain⟨x0,r0,e0,n0,h'⟩:=re h
  obtain⟨x1,r1,e1,n1,JQ⟩:=QQ (by decide) (by decide) (by decide) (by decide) h'
  obtain⟨hr,hc⟩:=eK JQ
  subst e0 e1
  subst hr
  simp only[jG,ax,aR]at hl
  refine⟨.brk (rE x0) x1,hc,⟨?_,?_,?_,?_⟩,?_⟩
  ·grind [tC]
  ·grind
  all_goals grind
 ·
  obtain⟨x0,r0,e0,n0,h'⟩:=re h
  obtain⟨hr,hc⟩:=eK h'
  subst e0
  subst hr
  simp only[jG,ax,aR]at hl
  refine⟨.ji (rE x0),hc,⟨?_,?_,?_,?_⟩,?_⟩
  ·grind [tC]
  ·grind
  all_goals grind
 ·
  obtain⟨x0,r0,y0,e0,n0,h'⟩:=lZ h
  obtain⟨x1,r1,y1,e1,n1,JQ⟩:=lZ h'
  obtain⟨hr,hc⟩:=eK JQ
  subst e0 e1
  subst hr
  simp only[jG,ax,aR]at hl
  refine⟨.dm (.lay y0 y1),hc,⟨?_,?_,?_,?_⟩,?_⟩
  ·grind
  ·intro m hm
   simp only[jB.texts,Dm.texts,bK,List.not_mem_nil,or_false,false_or]at hm
   rcases hm with rfl|rfl
   ·have:=su n0;omega
   ·have:=su n1;omega
  all_goals grind
 ·
  obtain⟨x0,r0,y0,e0,n0,h'⟩:=lZ h
  obtain⟨x1,r1,e1,n1,JQ⟩:=re h'
  obtain⟨x2,r2,y2,e2,n2,h'''⟩:=at9 JQ
  obtain⟨hr,hc⟩:=eK h'''
  subst e0 e1 e2
  subst hr
  simp only[jG,ax,aR]at hl
  refine⟨.dm (.flip y0 (rE x1) y2),hc,⟨?_,?_,?_,?_⟩,?_⟩
  ·intro m hm
   simp only[jB.gx,Dm.gx,bK,List.not_mem_nil,or_false,false_or]at hm
   rcases hm with rfl|rfl
   ·grind [tC]
   ·exact aj (QT n2) (by decide)
  ·intro m hm
   simp only[jB.texts,Dm.texts,bK,List.not_mem_nil,or_false,false_or]at hm
   rcases hm with rfl
   ·have:=su n0;omega
  ·grind
  ·intro n k x e;cases e;exact QT n2
  grind
 ·
  obtain⟨x0,r0,y0,e0,n0,h'⟩:=lZ h
  obtain⟨x1,r1,e1,n1,JQ⟩:=re h'
  obtain⟨hr,hc⟩:=eK JQ
  subst e0 e1
  subst hr
  simp only[jG,ax,aR]at hl
  refine⟨.dm (.cut y0 (rE x1)),hc,⟨?_,?_,?_,?_⟩,?_⟩
  ·grind [tC]
  ·intro m hm
   simp only[jB.texts,Dm.texts,bK,List.not_mem_nil,or_false,false_or]at hm
   rcases hm with rfl
   ·have:=su n0;omega
  all_goals grind
 ·
  obtain⟨x0,r0,y0,e0,n0,h'⟩:=lZ h
  obtain⟨hr,hc⟩:=eK h'
  subst e0
  subst hr
  simp only[jG,ax,aR]at hl
  refine⟨.dm (.OU y0),hc,⟨?_,?_,?_,?_⟩,?_⟩
  ·grind
  ·intro m hm
   simp only[jB.texts,Dm.texts,bK,List.not_mem_nil,or_false,false_or]at hm
   rcases hm with rfl
   ·have:=su n0;omega
  all_goals grind
 ·
  obtain⟨x0,r0,y0,e0,n0,h'⟩:=lZ h
  obtain⟨x1,r1,y1,e1,n1,JQ⟩:=lZ h'
  obtain⟨hr,hc⟩:=eK JQ
  subst e0 e1
  subst hr
  simp only[jG,ax,aR]at hl
  refine⟨.dm (.copy y0 y1),hc,⟨?_,?_,?_,?_⟩,?_⟩
  ·grind
  ·intro m hm
   simp only[jB.texts,Dm.texts,bK,List.not_mem_nil,or_false,false_or]at hm
   rcases hm with rfl|rfl
   ·have:=su n0;omega
   ·have:=su n1;omega
  all_goals grind
 ·
  obtain⟨x0,r0,y0,e0,n0,h'⟩:=lZ h
  obtain⟨x1,r1,y1,e1,n1,JQ⟩:=lZ h'
  obtain⟨hr,hc⟩:=eK JQ
  subst e0 e1
  subst hr
  simp only[jG,ax,aR]at hl
  refine⟨.dm (.move y0 y1),hc,⟨?_,?_,?_,?_⟩,?_⟩
  ·grind
  ·intro m hm
   simp only[jB.texts,Dm.texts,bK,List.not_mem_nil,or_false,false_or]at hm
   rcases hm with rfl|rfl
   ·have:=su n0;omega
   ·have:=su n1;omega
  all_goals grind
 ·
  obtain⟨hr,hc⟩:=eK h
  subst hr
  simp only[jG,ax,aR]at hl
  refine⟨.files,hc,⟨?_,?_,?_,?_⟩,?_⟩
  ·grind
  ·grind
  all_goals grind
 ·
  obtain⟨x0,r0,y0,e0,n0,h'⟩:=lZ h
  obtain⟨hr,hc⟩:=eK h'
  subst e0
  subst hr
  simp only[jG,ax,aR]at hl
  refine⟨.read y0,hc,⟨?_,?_,?_,?_⟩,?_⟩
  ·grind
  ·intro m hm
   simp only[jB.texts,Dm.texts,bK,List.not_mem_nil,or_false,false_or]at hm
   rcases hm with rfl
   ·have:=su n0;omega
  all_goals grind
 ·
  obtain⟨hr,hc⟩:=eK h
  subst hr
  simp only[jG,ax,aR]at hl
  refine⟨.used,hc,⟨?_,?_,?_,?_⟩,?_⟩
  ·grind
  ·grind
  all_goals grind
theorem rG:∀(l cur:Bs),jG (ab8 cur l)<=cur.length+l.length+1
 |[],cur=>by
  grind [ab8,jG]
 |b::l,cur=>by
  rw[ab8];have h1:=rG l [];have h2:=rG l (cur++[b]);simp only[aG,ax,aR]at*;split
  ·split
   ·omega
   ·simp only[jG];omega
  ·omega
theorem Mi(s:Bs):jG (iG s)<=s.length+1:=by
 grind [rG,iG]
theorem Fc(c:UInt8):∀s:Bs,jG (splitB c s)=s.length+1
 |[]=>by simp[splitB,jG]
 |x::r=>by
  have ih:=Fc c r;rw[splitB];split
  ·simp only[jG,ax,aR];omega
  ·split
   ·exact Vk
   ·exact Vk
theorem ZF{l:Bs}(h:Hn l=.ok cs)(hl:l.length<=40000):∃A:List jB,A.map jB.cmd=cs/\(∀a∈A,a.may)/\(A.map jB.wt).sum<=l.length+1:=by
 unfold Hn at h;split at h
 ·obtain⟨f1,f2⟩:=zu l;have f3:=Mi l;split at h
  ·simp_all
  ·rename_i w r hf;rw[hf]at f1 f2 f3;split at h
   ·simp_all
   ·split at h
    ·cases h
    ·rename_i c hc;cases h;simp only[jG,ax]at f1 f3;obtain⟨a,h1,h2,h3⟩:=ZE hc (λx hx=>(f2 x a08).1) av;simp only[jG]at h3;exact⟨[a],by simp[h1],(λb hb=>by grind),by simp;omega⟩
 ·cases h
theorem AY:∀(ls:List Bs) (i:Nat) (acc cs:List xM),kJ i ls acc=.ok cs->(∀l∈ls,l.length<=40000)->∃A:List jB,cs=acc++A.map jB.cmd/\(∀a∈A,a.may)/\(A.map jB.wt).sum<=jG ls
 |[],i,acc,cs,h,_=>by cases h;simp_all
 |l::r,i,acc,cs,h,hl=>by
  unfold kJ at h;split at h
  ·cases h
  ·rename_i c1 h1;obtain⟨a1,b1,c1',d1⟩:=ZF h1 (hl l nH);obtain⟨a2,b2,c2,d2⟩:=AY r _ _ _ h λx hx=>hl x a08;refine⟨a1++a2,by grind,λa ha=>?_,?_⟩;all_goals grind [jG]
theorem AZ:∀(ls:List Bs) (i:Nat) (acc:List xM) (j:Nat),kJ i ls acc=.error j->0<j
 |[],i,acc,j,h=>by cases h
 |l::r,i,acc,j,h=>by
  unfold kJ at h
  split at h
  ·grind
  ·exact AZ r _ _ _ h
theorem Fe(hs:s.length<=20000)(h:kK s=.ok cs):∃A:List jB,A.map jB.cmd=cs/\(∀a∈A,a.may)/\(A.map jB.wt).sum<=20001:=by
 unfold kK at h
 obtain⟨A,h1,h2,h3⟩:=AY _ _ _ _ h λl hl=>aj (tu 10 s l hl) av
 grind [Fc]
theorem ZG:∀l:List jB,4*l.length<=(l.map jB.wt).sum
 |[]=>ar _
 |a::r=>by
  have h:=ZG r;have h2:4<=a.wt:=by
   cases a with
   |del ks=>show 4<=4+2*ks.length;omega
   |ma=>show 4<=14;decide
   |files=>show 4<=6;decide
   |_=>exact ar _
  simp only[aK,eC,ax];omega
theorem Pc(hs:s.length<=20000){A:List jB}(hp:kK s=.ok (A.map jB.cmd))(hm:∀a∈A,a.may)(hw:(A.map jB.wt).sum<=20001):
 TR ab GG 7 #[ao s] [] (cb λu C=>u=.tuple #[ao (tB.outs A),.int .i64 0,.int .i64 0]/\C=[]):=
 YY s hs A hp (by grind [ZG]) (T4 hm av) (Hv hm hw)
@[reducible] def bq6:Bs:=[111,112,101,110,32,100,101,101,112,32,49,48,48,48,32,48,10,112,117,116,32,97,32,49,10,115,121,110,99,10,112,117,116,32,98,32,37,48,48,10,99,114,97,115,104,32,48,10,111,112,101,110,32,100,101,101,112,32,49,48,48,48,32,48,10,97,108,108,10]
@[reducible] def T5:Bs:=[111,107,32,48,32,48,32,48,32,48,10,111,107,10,111,107,10,111,107,10,111,107,10,111,107,32,49,32,49,32,49,32,48,10,97,108,108,32,97,32,49,10]
def Mj:List jB:=[.ma [100,101,101,112] 1000 0,.put [97] [49],.sync,.put [98] [0],.ji 0,.ma [100,101,101,112] 1000 0,.all]
theorem T6:kK bq6=.ok (Mj.map jB.cmd):=cA
def Pd:Bs:=[115,101,103,45,48,48,48,48,48,48,48,49,46,108,111,103]
def Hx:Bs:=[115,101,103,45,48,48,48,48,48,48,48,49,46,104,105,110,116]
def ZH:Bs:=[167,0,0,5,1,1,1,97,49,12,2,59,28,77]
def QU:Bs:=[167,0,0,6,3,1,1,0,14,97,7,68,117,113,71,167,0,0,9,4,1,14,1,248,196,208,196,1,14,88,44,6,23]
def PV:be:=⟨4194304,14,[(Pd,⟨ZH,14⟩)],0,0,false,false⟩
def ZI:be:=⟨4194304,47,[(Pd,⟨ZH,14⟩),(Hx,⟨QU,33⟩)],0,0,false,false⟩
theorem bq7:tB.after (Mj.take 5)=⟨PV,none⟩:=cA
theorem a'2:tB.outs (Mj.take 5)=T5.take 23:=aZ7
theorem bq8:(s6 PV).1=ZI:=cA
theorem ZK:ZI.names=[Hx,Pd]:=by
 unfold be.names sortStr;rw[show ZI.files.map (·.1)=[Pd,Hx]from rfl,List.mergeSort];simp;rw[List.cons_merge_cons,if_neg aZ7];rw[List.merge_right];try rfl
theorem bq9:ZI.all=[⟨Hx,QU⟩,⟨Pd,ZH⟩]:=by
 unfold be.all be.told;rw[ZK];kernel_rfl
theorem ZL:ZI.lU=[⟨Hx,QU⟩,⟨Pd,ZH⟩]:=by
 unfold be.lU be.told;rw[ZK];kernel_rfl
theorem br0:kj ZI=(ZI,0):=by
 unfold kj;rw[bq9,ZL];kernel_rfl
theorem br1:(s6 PV).2=.ok ⟨FZ ZI.all,1,1,0⟩:=cA
@[reducible] def br2:dR:=FZ [⟨Hx,QU⟩,⟨Pd,ZH⟩]
@[reducible] def a'3:fJ:=⟨1000,0,false,⟨1000,0,0,0,0,0,false⟩,br2,1,false,false⟩
theorem br3:gR PV 1000 0 false=(ZI,.ok (a'3,⟨br2,1,1,0⟩)):=by
 unfold gR
 rw[if_neg de]
 grind [kY,br1,bq8,br0,bq9]
theorem a'4:(⟨PV,none⟩:mq).do (.ma [100,101,101,112] 1000 0)=(⟨ZI,some a'3⟩,T5.drop 23 |>.take 10):=by
 have e0:(([100,101,101,112]:Bs)==kC)=false:=de;unfold mq.do;dsimp only;rw[e0];show((⟨(gR PV 1000 0 false).1,match(gR PV 1000 0 false).2 with|.ok z=>some z.1|.error _=>none⟩:mq),BJ (gR PV 1000 0 false).2)=_;rw[br3];dsimp only;exact Prod.ext U aZ7
theorem a'5:(⟨ZI,some a'3⟩:mq).outs [.all]=T5.drop 34:=aZ7
theorem Ff:∀(a b:List jB) (x:mq),x.outs (a++b)=x.outs a++(x.after a).outs b
 |[],b,x=>rfl
 |c::r,b,x=>by
  show(x.do c).2++[10]++(x.do c).1.outs (r++b)=((x.do c).2++[10]++(x.do c).1.outs r)++_;rw[Ff r b,bT ((x.do c).2++[10])];rfl
theorem ZM:tB.outs Mj=T5:=by
 have e:Mj=Mj.take 5++[.ma [100,101,101,112] 1000 0,.all]:=U;rw[e,Ff,a'2,bq7];show T5.take 23++((mq.do ⟨PV,none⟩ (.ma [100,101,101,112] 1000 0)).2++[10]++(mq.do ⟨PV,none⟩ (.ma [100,101,101,112] 1000 0)).1.outs [.all])=T5;rw[a'4,a'5];decide+kernel
theorem au4:∀a∈Mj,a.may:=by
 unfold Mj
 grind
def ZN(s a:Bs)(i:Nat)(e:Int):Prop:=
 (20000<s.length/\a=[]/\i=0/\e=160)\/(s.length<=20000/\kK s=.error i/\0<i/\a=[]/\e=161)\/
 (s.length<=20000/\∃A:List jB,kK s=.ok (A.map jB.cmd)/\(∀c∈A,c.may)/\(A.map jB.wt).sum<=20001/\a=tB.outs A/\i=0/\e=0)
def br4(s a:Bs)(i:Nat)(e:Int):Prop:=TR ab GG 7 #[ao s] [] (cb λu C=>u=.tuple #[ao a,.int .i64 i,.int .i64 e]/\C=[])
theorem au5(s:Bs):∃a i e,ZN s a i e/\br4 s a i e:=by
 by_cases h:20000<s.length
 ·exact⟨_,_,_,.inl ⟨h,U,U,U⟩,zA s h⟩
 ·have h:s.length<=20000:=by omega
  cases hp:kK s with
  |error i=>
   have hi:=AZ _ _ _ _ hp;exact⟨_,_,_,.inr (.inl ⟨h,hp,hi,U,U⟩),I3 s h i hi hp⟩
  |ok cs=>
   obtain⟨A,h1,h2,h3⟩:=Fe h hp;subst h1;exact⟨_,_,_,.inr (.inr ⟨h,A,hp,h2,h3,U,U,U⟩),Pc h hp h2 h3⟩
theorem ZN.e{a:Bs}{i:Nat}{e:Int}(h:ZN s a i e):(e=0\/e=160\/e=161)/\a.length<=140737488355328/\i<=20001:=by
 rcases h with⟨_,rfl,rfl,rfl⟩|⟨h,hp,hi,rfl,rfl⟩|⟨_,A,_,h2,h3,rfl,rfl,rfl⟩
 ·grind
 ·refine⟨.inr (.inr U),by decide,?_⟩
  have key:∀(ls:List Bs) (i:Nat) (acc:List xM) (j:Nat),kJ i ls acc=.error j->j<=i+ls.length:=by
   intro ls;induction ls<;>grind [kJ]
  have h1:=key _ _ _ _ hp
  grind [sU,bP]
 grind [Hv]
theorem ZO:TR ab GG 6 #[] [] (cT (.bool true)):=by
 refine Py λb β hb hG=>xS ?_;have h:=Pc (s:=bq6) de T6 au4 aZ7;rw[ZM]at h;refine bw h ?_;rintro v C ⟨rfl,rfl⟩;exact xR
theorem T7(c:UInt8):∀s:Bs,splitB c s≠[]
 |[]=>by simp[splitB]
 |x::r=>by
  grind [splitB]
theorem xv(c:UInt8):∀s m:Bs,splitB c (s++c::m)=splitB c s++splitB c m
 |[],m=>by simp[splitB]
 |x::r,m=>by
  have ih:=xv c r m;rw[ae,splitB,ih,show splitB c (x::r)=if x=c then[]::splitB c r else match splitB c r with|h::t=>(x::h)::t|[]=>[[x]]from by rw[splitB];rfl];split
  ·rfl
  ·cases h:splitB c r with
   |nil=>exact absurd h (T7 c r)
   |cons y t=>rfl
end
end Go.Proofs
namespace Go.Proofs
open Go Go.Sl YtcicblljnenhoaaGreatDoor
open Go.ChangeShapes Go.WideShapes Go.RowKit Go.ChangeMaps
set_option maxRecDepth 8000
section
variable(os:Os)(args:Array Value)
section
set_option maxRecDepth 100000
theorem la:(lm os args).variablesRefB ab=true:=cA
theorem lb:((lm os args).heap.toList.drop ab.globals.size).take ((begin ab (λ_ _=>0) default).world.heap.size - ab.globals.size)=(begin ab (λ_ _=>0) default).world.heap.toList.drop ab.globals.size:=cA
theorem lr:((DataW.laidRun ab (lm os args).memory 8 ((uK.filter λx=>x.2.handleName?.isNone).map (·.1))).bind λx=>if nodupBits 257 x.2 0&&laidRowsB ab (lm os args).memory x.2&&(uK.filter λx=>x.2.handleName?.isSome&&x.2.funcsIn?.isNone).all (handleAtB ab (lm os args).memory)then some x.1 else none)=some (uK.filter λx=>x.2.handleName?.isNone):=cA
theorem br6:laidMetH ab uK (lm os args).memory:=by
 have h:=lr os args;simp only[Option.bind_eq_some_iff]at h;obtain⟨x,hx,h⟩:=h;split at h
 ·rename_i hb;simp only[Bool.and_eq_true]at hb;have h:=dN h;refine laidMetH_of_parts3 (fuel:=8) (laidMet_of_run (ps:=x.2) 8 (by rw[hx,<-h]) (decide_eq_true (nodupBits_sound hb.1.1).1) hb.1.2) hb.2 cA
 ·cases h
end
end
end Go.Proofs
namespace Go.Proofs
open Go.Sl
set_option maxRecDepth 8000
section
variable{b:Bs}(l w:Bs)(x:mq)(c:UInt8)(s:Bs)(dn:List Bs)(cur:Bs)
theorem bg2:vd c=if 48<=c.toNat/\c.toNat<=57 then(c.toNat:Int) - 48 else if 97<=c.toNat/\c.toNat<=102 then(c.toNat:Int) - 87 else -1:=by
 have key:∀n:Fin 256,vd (cu n.1)=if 48<=n.1/\n.1<=57 then(n.1:Int) - 48 else if 97<=n.1/\n.1<=102 then(n.1:Int) - 87 else -1:=aZ7;have h:=key ⟨c.toNat,c.toNat_lt⟩;simp_all
theorem ax1:TR ab GG 234 #[fO c] [] (cT (.int .i64 (vd c))):=by
 refine cg U λb β hb hG=>?_;have hc:=c.toNat_lt;rw[bg2];refine xS ?_;by_cases h1:48<=c.toNat/\c.toNat<=57
 ·rw[if_pos h1];refine aM 6 true U bB (xS ?_);refine aM 3 true U bB (xS ?_);rw[wrap_i64 _ av av];exact xR
 ·rw[if_neg h1];by_cases h0:48<=c.toNat
  ·refine aM 6 true U bB (xS ?_);refine aM 3 false U bB (xS ?_);by_cases h2:97<=c.toNat/\c.toNat<=102
   ·rw[if_pos h2];refine aM 16 true U bB (xS ?_);refine aM 13 true U bB (xS ?_);rw[wrap_i64 _ av av];exact xR
   ·rw[if_neg h2];by_cases h3:97<=c.toNat
    ·refine aM 16 true U bB (xS ?_);refine aM 13 false U bB  ?_;exact xR
    ·exact aw0
  ·rw[if_neg av];refine aM 6 false U bB (xS ?_);exact aw0
theorem bl1(hs:w.length<=1000000):TR ab GG 147 #[ao w] [] (cT (.bool (tr w))):=by
 refine cg U λb β hb hG=>xS ?_;refine eT [0] [] (ι:={i:Nat // i<=w.length/\w.all Fp=(w.drop i).all Fp}) (λi q_=>(3,aX i.1)::q_) (λi q_=>q_) (λi=>w.length - i.1) ⟨0,al _,U⟩ ?_;rintro⟨i,hi,hE⟩ ih;dsimp only at hi hE ⊢;refine xB ?_ ?_<;>intro h
 ·have h:i<w.length:=by grind
  rw[aP h,List.all_cons]at hE;refine xS ?_;refine kz (l:=w) (j:=i) U U U U U h (xS ?_);by_cases h1:w[i].toNat<48
  ·refine aM 14 true U bB (xS ?_);exact az6
  ·refine aM 14 false U bB (xS ?_);refine kz (l:=w) (j:=i) U U U U U h  ?_;refine xB ?_ ?_<;>intro h2
   ·have h2:57<w[i].toNat:=by grind
    refine xS ?_;exact az6
   ·have h2:w[i].toNat<=57:=by grind
    refine xS ?_;have hn:Fp w[i]=true:=by grind [Fp]
    rw[hn,Bool.true_and]at hE;exact aI9
 ·have h:i=w.length:=by grind
  subst h;rw[bc (ar _)]at hE;have hE:w.all Fp=true:=hE;refine xS ?_;by_cases h1:1<=w.length
  ·refine aM 23 true U bB (xS ?_);by_cases h2:w.length<=9
   ·refine aM 28 true U bB (xS ?_);refine kz (l:=w) (j:=0) U U U U U av (xS ?_);have hhd:w.headD 0=w[0]' av:=by cases w with|nil=>simp at h1|cons _ _=>rfl
    by_cases h3:w[0]' av=48
    ·refine aM 32 false U (by rw[h3];rfl) (xS ?_)
     refine bO hb (.tmps U) ⟨?_,U⟩
     have e:tr w=decide (w.length=1):=by
      rw[tr,hE,hhd,h3,decide_eq_true h1,decide_eq_true h2];cases w<;>grind
     rw[e]
     simp[lx]
     grind
    ·refine aM 32 true U ?_ ?_
     ·exact bF1
     ·refine xS ?_;refine bO hb (.tmps U) ⟨?_,U⟩;rw[tr,hE,hhd,decide_eq_true h1,decide_eq_true h2,decide_eq_true h3];rfl
   ·refine aM 28 false U bB (xS ?_);exact bO hb (.tmps U) ⟨by rw[tr,decide_eq_false h2,Bool.and_false,ab6,ab6];rfl,U⟩
  ·refine aM 23 false U bB (xS ?_);exact bO hb (.tmps U) ⟨by rw[tr,decide_eq_false h1,ab6,ab6,ab6];rfl,U⟩
def exB{α:Type}:Except Unit α->Bool
 |.ok _=>true
 |.error _=>false
theorem aL4:TR ab GG 148 #[ao w] [] (cT (.bool (exB (zr w)))):=by
 refine cg U λb β hb hG=>?_;by_cases h:w.length=2
 ·obtain⟨x,y,rfl⟩:∃x y,w=[x,y]:=by
   match w,h with
   |[x,y],_=>grind
  have e:exB (zr [x,y])=(decide (vd x≥0)&&decide (vd y≥0)):=by
   grind [zr,exB]
  rw[e];have dx:=ax1 x;have dy:=ax1 y;generalize vd x=p at*;generalize vd y=q at*;refine xS ?_;refine kz (l:=[x,y]) (j:=0) U U U U U nH ?_;refine xJ dx ?_;refine kz (l:=[x,y]) (j:=1) U U U U U nH ?_;refine xJ dy ?_;by_cases h1:p≥0
  ·refine aM 16 true U (decide_eq_true h1) (xS ?_);exact bO hb (.tmps U) ⟨by rw[decide_eq_true h1,Bool.true_and];rfl,U⟩
  ·refine aM 16 false U (decide_eq_false h1) (xS ?_);exact bO hb (.tmps U) ⟨by rw[decide_eq_false h1,ab6];rfl,U⟩
 ·rw[ap8 w h];refine xS ?_;refine aM 7 true U bB  ?_;exact xR
theorem aL5(hs:w.length<=1000000):TR ab GG 149 #[ao w] [] (cT (.bool (exB (si w)))):=by
 refine cg U λb β hb hG=>xS ?_;refine eT [0] [] (ι:={i:Nat // i<=w.length/\exB (si w)=exB (si (w.drop i))}) (λi q_=>(3,aX i.1)::q_) (λi q_=>q_) (λi=>w.length - i.1) ⟨0,al _,U⟩ ?_;rintro⟨i,hi,hE⟩ ih;dsimp only at hi hE ⊢;generalize exB (si w)=res at*;refine xB ?_ ?_<;>intro h
 ·have h:i<w.length:=by grind
  rw[aP h]at hE;refine xS ?_;refine kz (l:=w) (j:=i) U U U U U h (xS ?_);by_cases hc:w[i]=37
  ·refine aM 15 false U (by rw[hc];rfl) ?_;rw[hc]at hE;refine xS ?_;by_cases h2:i+2<w.length
   ·refine aM 20 false U bB ?_;have d1:w.drop (i+1)=w[i+1]::w[i+2]::w.drop (i+3):=by
     simp_all
    rw[d1,YB _ bE]at hE;have e1:∀x y:UInt8,∀r:Bs,(x::y::r).take 2=[x,y]:=λ_ _ _=>rfl;have e2:∀x y:UInt8,∀r:Bs,(x::y::r).drop 2=r:=λ_ _ _=>rfl;rw[e1,e2]at hE;have jD:∀x y,zr [x,y]=if 0<=vd x/\0<=vd y then .ok (16*(vd x).toNat+(vd y).toNat)else .error ():=λ_ _=>rfl;rw[jD]at hE;have dx:=ax1 w[i+1];have dy:=ax1 w[i+2];generalize vd w[i+1]=p at*;generalize vd w[i+2]=q at*;refine xS ?_;refine kz (l:=w) (j:=i+1) U U U U nH av ?_;refine xJ dx ?_;refine kz (l:=w) (j:=i+2) U U U U nH av ?_;refine xJ dy ?_;by_cases h3:p<0
    ·refine aM 33 true U (decide_eq_true h3) (xS ?_);exact bk8
    ·refine aM 33 false U (decide_eq_false h3) (xS ?_);by_cases h4:q<0
     ·refine aM 36 true U (decide_eq_true h4) (xS ?_);exact bk8
     ·refine aM 36 false U (decide_eq_false h4) ?_;rw[if_pos av]at hE;have hE:res=exB (si (w.drop (i+3))):=by rw[hE];cases si (w.drop (i+3))<;>rfl
      refine xS ?_;exact X.less (ih ⟨i+3,by omega,hE⟩ bE) (s2_ U (eN U (by grind [aX]))) ay
   ·refine aM 20 true U bB ?_;rw[YC _ bB]at hE;exact bj6
  ·refine aM 15 true U ?_ ?_
   ·rw[bne_iff_ne];intro h;exact ax2
   ·rw[YA _ _ hc]at hE;have hE:res=exB (si (w.drop (i+1))):=by rw[hE];cases si (w.drop (i+1))<;>rfl
    refine xS ?_;exact aI9
 ·have h:i=w.length:=by grind
  subst h;rw[bc (ar _)]at hE;exact bj6
def ay0:List (Bs×Bs):=[([115,121,110,99],[]),([109,101,114,103,101],[]),([99,108,111,115,101],[]),([107,101,121,115],[]),([97,108,108],[]),([108,97,115,116],[]),([102,105,108,101,115],[]),([117,115,101,100],[]),([100,105,115,107],[110]),([102,97,105,108],[110]),([99,114,97,115,104],[110]),([111,112,101,110],[111,110,110]),([98,114,101,97,107],[110,119]),([112,117,116],[116,116]),([108,97,121],[116,116]),([99,111,112,121],[116,116]),([109,111,118,101],[116,116]),([103,101,116],[116]),([108,111,115,101],[116]),([114,101,97,100],[116]),([100,101,108],[84]),([102,108,105,112],[116,110,120]),([99,117,116],[116,110])]
def ak9(w:Bs):Bs:=match ay0.find? (λx=>x.1=w)with|some x=>x.2|none=>[63]
theorem aE5:TR ab GG 87 #[ao w] [] (cT (ao (ak9 w))):=by
 refine cg U λb β hb hG=>?_;by_cases hm:w∈ay0.map (·.1)
 ·unfold ay0 at hm;simp only[aK,ie,bK,List.not_mem_nil,or_false]at hm;rcases hm with rfl|rfl|rfl|rfl|rfl|rfl|rfl|rfl|rfl|rfl|rfl|rfl|rfl|rfl|rfl|rfl|rfl|rfl|rfl|rfl|rfl|rfl|rfl<;>(refine xS ?_)<;>exact xR
 ·have e:ak9 w=[63]:=by
   grind [ak9]
  rw[e];have hn:∀y,y∈ay0.map (·.1)->(w==y)=false:=bE;refine xS ?_;rw[hn [115,121,110,99] de];refine xS ?_;rw[hn [109,101,114,103,101] de];refine xS ?_;rw[hn [99,108,111,115,101] de];refine xS ?_;rw[hn [107,101,121,115] de];refine xS ?_;rw[hn [97,108,108] de];refine xS ?_;rw[hn [108,97,115,116] de];refine xS ?_;rw[hn [102,105,108,101,115] de];refine xS ?_;rw[hn [117,115,101,100] de];refine xS ?_;rw[hn [100,105,115,107] de];refine xS ?_;rw[hn [102,97,105,108] de];refine xS ?_;rw[hn [99,114,97,115,104] de];refine xS ?_;rw[hn [111,112,101,110] de];refine xS ?_;rw[hn [98,114,101,97,107] de];refine xS ?_;rw[hn [112,117,116] de];refine xS ?_;rw[hn [108,97,121] de];refine xS ?_;rw[hn [99,111,112,121] de];refine xS ?_;rw[hn [109,111,118,101] de];refine xS ?_;rw[hn [103,101,116] de];refine xS ?_;rw[hn [108,111,115,101] de];refine xS ?_;rw[hn [114,101,97,100] de];refine xS ?_;rw[hn [100,101,108] de];refine xS ?_;rw[hn [102,108,105,112] de];refine xS ?_;rw[hn [99,117,116] de];exact xR
def av8(c:UInt8)(w:Bs):Bool:=if c=110 then tr w else if c=120 then exB (zr w)else if c=111 then(w==[100,101,101,112]||w==[102,97,115,116])else if c=119 then(w==[98,101,102,111,114,101]||w==[98,101,104,105,110,100])else exB (si w)
theorem aL7(hc:c∈[110,120,111,119,116])(w:Bs)(hs:w.length<=1000000):TR ab GG 88 #[fO c,ao w] [] (cT (.bool (av8 c w))):=by
 refine aW U λb β hb hG=>?_;simp only[bK,List.not_mem_nil,or_false]at hc;rcases hc with rfl|rfl|rfl|rfl|rfl
 ·rw[show av8 110 w=tr w from rfl];refine xJ (bl1 w hs) ?_;exact xR
 ·rw[show av8 120 w=exB (zr w)from rfl];refine xJ (aL4 w) ?_;exact xR
 ·rw[show av8 111 w=(w==[100,101,101,112]||w==[102,97,115,116])from rfl];refine xS ?_;generalize(w==[100,101,101,112])=p at*;cases p
  ·exact xR
  ·exact xR
 ·rw[show av8 119 w=(w==[98,101,102,111,114,101]||w==[98,101,104,105,110,100])from rfl];refine xS ?_;generalize(w==[98,101,102,111,114,101])=p at*;cases p
  ·exact xR
  ·exact xR
 ·rw[show av8 116 w=exB (si w)from rfl];refine xJ (aL5 w hs) ?_;exact xR
@[reducible] def eSt:Bs->List Value:=λk=>[ao k]
def ax6(cur:Bs):List Bs:=if cur=[]then[]else[cur]
theorem bG7:((dn++[cur]).flatMap eSt)[dn.length]?=some (ao cur):=by
 rw[<-List.map_eq_flatMap];simp
theorem bl7(y:Bs):((dn++[cur]).flatMap eSt).take dn.length++[ao y]++((dn++[cur]).flatMap eSt).drop (dn.length+1)=(dn++[y]).flatMap eSt:=by
 rw[<-List.map_eq_flatMap,<-List.map_eq_flatMap];simp_all
theorem bI9(r:Bs):ab8 cur (32::r)=ax6 cur++ab8 [] r:=by
 cases cur with
 |nil=>rw[Lib.fieldsGo_sp _ _ de];rfl
 |cons x t=>rw[Lib.fieldsGo_end _ _ _ de nH];rfl
theorem bJ0(r:Bs)(c:UInt8)(h:33<=c.toNat):ab8 cur (c::r)=ab8 (cur++[c]) r:=by
 refine Lib.fieldsGo_more _ _ _ ?_;unfold Lib.isSp;simp only[Bool.or_eq_false_iff,beq_eq_false_iff_ne];refine⟨⟨⟨⟨⟨?_,?_⟩,?_⟩,?_⟩,?_⟩,?_⟩<;>(rintro rfl;exact absurd h de)
def am3(s:Bs):Option (List Bs):=if cy yO 0 s<0 then some (iG s)else none
theorem aE8(hs:s.length<=1000000):TR ab GG 86 #[ao s] [] (cb λv B=>match am3 s with
 |none=>v=.tuple #[.slice none 0 0,.bool false]/\B=[]
 |some ws=>∃a c,v=.tuple #[.slice a ws.length c,.bool true]/\B=[own 9 1 a ws.length c (ws.flatMap eSt)]):=by
 refine cg U λb β hb hG=>?_
 have dp:(∀x∈s,yO x=false)->am3 s=some (iG s):=λh=>by unfold am3;rw[if_pos ((GH yO s 0).2 h)]
 have hno:(∃x∈s,yO x=true)->am3 s=none:=fun⟨x,h1,h2⟩=>by
  unfold am3;rw[if_neg];intro h;have:=(GH yO s 0).1 h x h1;rw[h2]at this;cases this
 have hf0:[]++ab8 [] (s.drop 0)=iG s:=U
 generalize am3 s=res at*
 generalize iG s=fs at*
 refine xS ?_
 refine X.cd (ej 9 1 _) ?_
 refine X.loop (ι:={z:Nat×List Bs×Bs×(Option Addr×Nat) // z.1<=s.length/\z.2.1++ab8 z.2.2.1 (s.drop z.1)=fs/\(∀x∈s.take z.1,yO x=false)/\z.2.1.length<=z.1/\z.2.2.1.length<=z.1})
  (λz=>([(0,ao s),(4,.slice z.1.2.2.2.1 (z.1.2.1++ax6 z.1.2.2.1).length z.1.2.2.2.2),(5,.bool (!z.1.2.2.1==[])),(6,aX z.1.1)],[own 9 1 z.1.2.2.2.1 (z.1.2.1++ax6 z.1.2.2.1).length z.1.2.2.2.2 ((z.1.2.1++ax6 z.1.2.2.1).flatMap eSt)])) (λz=>s.length - z.1.1)
  ⟨(0,[],[],(none,0)),al _,hf0,by simp,ar _,ar _⟩ (Sub.of U) (show aN _ [own 9 1 none 0 0 []]from ay) ?_
 rintro⟨⟨i,dn,cur,a,cp⟩,hi,hE,hg,hd,wm⟩ ih
 dsimp only at hi hE hg hd wm ⊢
 refine xB ?_ ?_<;>intro h
 ·have h:i<s.length:=by simp at h;omega
  rw[aP h]at hE;refine xS ?_;refine kz (l:=s) (j:=i) U U U U U h ?_;have iq:s[i]∈s:=aB h;have vy:∀x∈s.take (i+1),x∈s.take i\/x=s[i]:=λx hx=>by
   rw[<-List.take_append_getElem h]at hx;rcases cM.1 hx with h1|h1
   ·exact .inl h1
   ·exact .inr (bD.1 h1)
  generalize hc:s[i]=c at*;refine xS ?_;by_cases h32:c=32
  ·subst h32;rw[bI9,<-bT]at hE;refine aM 18 true U iA (xS ?_);refine X.less (ih ⟨(i+1,dn++ax6 cur,[],(a,cp)),by dsimp only;omega,hE,?_,?_,al _⟩ gm) ?_ ?_
   ·intro x hx;rcases vy x hx with h1|h1
    ·exact hg x h1
    ·subst h1;rfl
   ·dsimp only;rw[aG];unfold ax6;split<;>simp<;>omega
   ·dsimp only;rw[show ax6 []=[]from rfl,ah];exact EL U U U (eN U pH)
   ·dsimp only;rw[show ax6 []=[]from rfl,ah];exact ay
  ·refine aM 18 false U ?_ ?_
   ·rw[beq_eq_false_iff_ne];intro h;have e1:(32:UInt8).toNat=32:=U;exact h32 (aa2.1 av)
   have h32':c.toNat≠32:=λh=>h32 (aa2.1 h);refine xS ?_;by_cases hlo:c.toNat<33
   ·refine aM 21 true U bB (xS ?_);exact ak8
   ·refine aM 21 false U bB (xS ?_);by_cases hhi:126<c.toNat
    ·refine aM 24 true U bB (xS ?_);exact ak8
    ·refine aM 24 false U bB ?_;rw[bJ0 _ _ _ av]at hE;refine xS ?_;refine jI (ι:=Option Addr×Nat) (λp=>([(0,ao s),(4,.slice p.1 (dn++[cur]).length p.2),(6,aX i),(7,fO c)],[own 9 1 p.1 (dn++[cur]).length p.2 ((dn++[cur]).flatMap eSt)])) (λp=>?_) (λK fin=>?_)
     ·obtain⟨a2,c2⟩:=p;dsimp only;refine gV a2 nH λbl Fh=>?_;subst Fh;have hlen:(dn++[cur]).length=dn.length+1:=nH;refine xS ?_;refine eR 16 [0] ?_;apply cW [0,1,2,3,4,5,6,7,8,9,10,11,12,13,14,15] U U U
      ·intro p hp;refine xS ?_;refine du (j:=dn.length) U U U U av av (xS ?_);refine X.iP (v:=ao cur) U U U (by rw[show 0+dn.length*1=dn.length from by omega];exact bG7 dn cur) (xS ?_);refine mM (l:=i) (h:=i+1) U U U (Bd.at U U) (Bd.at U nH) av av ?_;rw[show(s.drop i).take (i+1 - i)=[c]from by rw[show i+1 - i=1 from by omega,aP h,hc];rfl];exact aI7
      ·rfl
      ·rfl
      refine xS ?_;refine du (j:=dn.length) U U U U av av (xS ?_);refine Pe U U U U U U (by rw[<-List.map_eq_flatMap];simp) ?_;rw[show 0+dn.length*1=dn.length from by omega,show[ao (cur++[c])].length=1 from rfl,bl7];refine xS ?_;have ho:∀x:UInt8,ax6 (cur++[x])=[cur++[x]]:=λx=>by unfold ax6;rw[if_neg nH]
      refine X.less (ih ⟨(i+1,dn,cur++[c],(some ⟨bl,0,none⟩,c2)),by dsimp only;omega,hE,?_,by dsimp only;omega,by dsimp only;simp;omega⟩ gm) ?_ ?_
      ·intro x hx;rcases vy x hx with h1|h1
       ·exact hg x h1
       ·subst h1;simp[yO];omega
      ·dsimp only;rw[ho,show(!cur++[c]==[])=true from by simp];exact EL U (eN U nH) U (eN U pH)
      ·dsimp only;rw[ho,show(dn++[cur++[c]]).length=(dn++[cur]).length from by simp];exact ay
     ·by_cases aD8:cur=[]
      ·subst aD8;rw[show dn++ax6 []=dn from by simp[ax6]];refine xZ ?_;intro b9;refine eD (([]:Bs)) U U U U SZ U iA iA iA iA iA av λa9 c9=>xS ?_;exact X.W (fin (a9,c9))
      ·rw[show(!cur==[])=true from by simpa using aD8,show ax6 cur=[cur]from if_neg aD8];refine xS ?_;exact X.W (fin (a,cp))
 ·have h:i=s.length:=by simp at h;omega
  subst h;rw[aD (ar _)]at hg;rw[bc (ar _)]at hE;have hE:dn++ax6 cur=fs:=by rw[<-hE];cases cur<;>rfl
  rw[hE];have:=dp hg;subst this;refine xS ?_;exact bO hb (.tmp U (.tmp U .nil)) ⟨a,cp,U,U⟩
def allFit:Bs->List Bs->Bool
 |[],[]=>true
 |c::n,w::r=>av8 c w&&allFit n r
 |_,_=>false
def ao5(n:Bs)(r:List Bs):Nat:=if n=[63]then 2 else if n=[84]then(if r=[]then 2 else if allFit (bI r.length 116) r then 1 else 2)else if allFit n r then 1 else 2
def ao7(s:Bs):Nat:=match am3 s with
 |none=>2
 |some []=>0
 |some (w::r)=>if w.headD 0=35 then 0 else ao5 (ak9 w) r
theorem az0:∀(n:Bs) (r:List Bs),allFit n r=true->n.length=r.length
 |[],[],_=>rfl
 |[],_::_,h=>by grind [allFit]
 |_::_,[],h=>by grind [allFit]
 |c::n,w::r,h=>by
  simp only[allFit,Bool.and_eq_true]at h;simp[az0 n r h.2]
theorem bm7(h1:ak9 w≠[63])(h2:ak9 w≠[84]):∀c∈ak9 w,c∈([110,120,111,119,116]:Bs):=by
 have key:∀x∈ay0,x.2≠[84]->∀c∈x.2,c∈([110,120,111,119,116]:Bs):=de;unfold ak9 at h1 h2 ⊢;cases hf:ay0.find? (λx=>x.1=w)<;>grind
theorem aC8:(ak9 w).length<=3:=by
 have key:∀x∈ay0,x.2.length<=3:=de
 grind [ak9]
theorem aL8(hs:s.length<=1000000):TR ab GG 51 #[ao s] [] (cT (.int .i64 (ao7 s))):=by
 refine cg U λb β hb hG=>xS ?_;refine bw (aE8 s hs) ?_;have hW:ao7 s=match am3 s with
  |none=>2
  |some []=>0
  |some (w::r)=>if w.headD 0=35 then 0 else ao5 (ak9 w) r:=U
 have pN:∀ws,am3 s=some ws->ws.length<=s.length/\∀w∈ws,w≠[]/\w.length<=s.length:=by grind [am3,zu]
 rw[hW];generalize am3 s=o at*;cases o with
 |none=>
  exact Xe
 |some ws=>
 rintro _ _ ⟨a,c,rfl,rfl⟩;obtain⟨Fl,pz⟩:=pN ws U;dsimp only[ae,ai,ah];refine dE a eSt ws U U (λ_=>rfl) λhac=>xS ?_;cases ws with
 |nil=>
  refine aM 19 true U U  ?_;exact xR
 |cons w r=>
  obtain⟨Rn,Ob⟩:=pz w nH;have hwl:0<w.length:=fy.2 Rn;have ZV:∀x∈r,x.length<=1000000:=bE;simp only[ax]at Fl;refine aM 19 false U bB (xS ?_);have h0:0<(w::r).length:=nH;refine kB a 0 h0 λbf of hF=>?_;subst hF;rw[show(w::r)[0]'h0=w from rfl];refine du (j:=0) U U U U U nH (xS ?_);refine kz (l:=w) (j:=0) U U U U U hwl ?_;have hhd:w.headD 0=w[0]'hwl:=FY;dsimp only;rw[hhd];generalize w[0]'hwl=x at*;refine xS ?_;by_cases h3:x=35
  ·subst h3;rw[if_pos U];refine aM 25 true U iA  ?_;exact xR
  ·rw[if_neg h3];refine aM 25 false U ?_ ?_
   ·rw[beq_eq_false_iff_ne];exact aQ7
   refine xS ?_;refine du (j:=0) U U U U U nH  ?_;refine xJ (aE5 w) ?_;have fw:=bm7 w;have Ko:=aC8 w;unfold ao5;generalize ak9 w=n at*;refine xS ?_;by_cases hq:n=[63]
   ·subst hq;refine aM 32 true U U  ?_;exact xR
   rw[if_neg hq];refine aM 32 false U bE (xS ?_);refine jI (ι:={nn:Bs // nn.length=r.length/\(∀c∈nn,c∈([110,120,111,119,116]:Bs))/\(n=[84]->nn=bI r.length 116)/\(n≠[84]->nn=n)/\(if n=[84]then(if r=[]then 2 else if allFit (bI r.length 116) r then 1 else 2)else if allFit n r then 1 else 2)=(if allFit nn r then 1 else 2)})
    (λnn=>([(3,.slice (some ⟨bf,of,none⟩) (w::r).length c),(5,ao n)],[bV RS 1 (some ⟨bf,of,none⟩) (w::r)])) (λnn=>?_) (λK fin=>?_)
   ·obtain⟨nn,n1,n2,n3,n4,n5⟩:=nn;dsimp only;rw[n5];refine xS ?_;refine eT [3,5] [] (ι:={j:Nat // j<=r.length/\allFit nn r=allFit (nn.drop j) (r.drop j)}) (λj q_=>(6,aX (j.1+1:Nat))::q_) (λj q_=>q_) (λj=>r.length - j.1) ⟨0,al _,U⟩ ?_;rintro⟨j,hj,hE⟩ ih;dsimp only at hj hE ⊢;refine xB ?_ ?_<;>intro h
    ·have h:j<r.length:=by grind
     have hnj:j<nn.length:=av;rw[aP h,aP hnj,allFit]at hE;have hfc:=aL7 nn[j] (n2 _ (aB hnj)) r[j] (ZV _ (aB h));refine xS ?_;refine jI (ι:=Unit) (λ_=>([(3,.slice (some ⟨bf,of,none⟩) (w::r).length c),(5,ao n),(6,aX (j+1:Nat)),(7,fO nn[j])],[bV RS 1 (some ⟨bf,of,none⟩) (w::r)])) (λ_=>?_) (λK fin=>?_)
     ·dsimp only;refine xS ?_;refine cH (j:=j+1) U U U U U bB U λbl o=>?_;rw[show(w::r)[j+1]' bB=r[j]from rfl];refine xJ hfc ?_;generalize av8 nn[j] r[j]=p at*;cases p with
      |false=>
       rw[ab6]at hE;rw[hE];exact xR
      |true=>
       rw[Bool.true_and]at hE;refine xS ?_;exact X.W (ih ⟨j+1,by omega,hE⟩ bE)
     ·by_cases h84:n=[84]
      ·have e1:nn[j]=116:=by
        grind
       rw[e1]at fin;subst h84;exact aB5
      ·have e1:=n4 h84;subst e1;rw[show(!nn==[84])=true from by grind];refine xS ?_;refine kz (l:=nn) (j:=j) U U U U nH hnj (xS ?_);exact X.W (fin ())
    ·have h:j=r.length:=by grind
     subst h;rw[bc (ar _),bc av]at hE;rw[hE];exact xR
   ·by_cases h84:n=[84]
    ·subst h84;rw[if_pos U]at fin ⊢;refine aM 35 false U iA (xS ?_);by_cases hr:r=[]
     ·subst hr;rw[if_pos U];refine aM 52 true U iA  ?_;exact xR
     ·have N7:0<r.length:=fy.2 hr;refine aM 52 false U bB (xS ?_);exact X.W (fin ⟨bI r.length 116,by simp,λc hc=>by grind,λ_=>rfl,λh=>absurd U h,by rw[if_neg hr]⟩)
    ·rw[if_neg h84]at fin ⊢;refine aM 35 true U bE (xS ?_);by_cases Vr:n.length=r.length
     ·refine aM 44 false U bB (xS ?_);rw[show(n==[84])=false from by grind];refine xS ?_;exact X.W (fin ⟨n,Vr,fw hq h84,λh=>absurd h h84,λ_=>rfl,U⟩)
     ·refine aM 44 true U bB ?_;have e1:allFit n r=false:=by
       grind [az0]
      rw[e1];exact xR
def an2:Nat->Nat->List Bs->Nat×Nat
 |_,n,[]=>(n,0)
 |i,n,l::r=>if ao7 l=2 then(0,i)else an2 (i+1) (n+ao7 l) r
theorem aw5(c:UInt8):∀s:Bs,(∀x∈s,x≠c)->splitB c s=[s]
 |[],_=>rfl
 |x::r,h=>by rw[splitB,if_neg (h x nH),aw5 c r λy hy=>h y U8]
theorem aC9(m:Bs)(h:∀x∈s,x≠c):splitB c (s++c::m)=s::splitB c m:=by grind [xv,aw5]
theorem aM2:ao7 s<=2:=by
 grind [ao7,ao5]
theorem aB8(hs:s.length<=1000000):TR ab GG 15 #[ao s] [] (cT (.tuple #[aX (an2 1 0 (splitB 10 s)).1,aX (an2 1 0 (splitB 10 s)).2])):=by
 refine cg U λb β hb hG=>?_;have h0:an2 1 0 (splitB 10 s)=an2 1 0 (splitB 10 (s.drop 0)):=U;generalize an2 1 0 (splitB 10 s)=res at*;refine xS ?_;refine X.loop (ι:={z:Nat×Nat×Nat×Nat // (z.1<=s.length/\z.2.1<=z.1/\(∀x∈(s.drop z.2.1).take (z.1 - z.2.1),x≠10)/\res=an2 z.2.2.1 z.2.2.2 (splitB 10 (s.drop z.2.1))\/z.1=s.length+1/\res=(z.2.2.2,0))/\z.2.2.1<=z.1+1/\z.2.2.2<=2*z.1}) (λz=>([(0,ao s),(4,aX z.1.2.2.2),(5,aX z.1.2.2.1),(6,aX z.1.2.1),(7,aX z.1.1)],[])) (λz=>s.length+1 - z.1.1)
  ⟨(0,0,1,0),.inl ⟨al _,ar _,by simp,h0⟩,by decide,by decide⟩ (Sub.of U) (aN.refl _) ?_
 rintro⟨⟨i,fr,at_,n⟩,hz,Jd,hn⟩ ih;dsimp only at hz Jd hn ⊢;refine xB ?_ ?_<;>intro h
 ·have h:i<=s.length:=by grind
  obtain⟨_,hfi,hseg,hE⟩:i<=s.length/\fr<=i/\(∀x∈(s.drop fr).take (i - fr),x≠10)/\res=an2 at_ n (splitB 10 (s.drop fr)):=by
   grind
  have sI:((s.drop fr).take (i - fr)).length<=1000000:=bB
  refine xS ?_
  by_cases hA:i<s.length/\s[i]!≠10
  ·obtain⟨hA1,hA2⟩:=hA
   rw[getElem!_pos s i hA1]at hA2
   refine aM 19 true U bB (xS ?_)
   refine kz (l:=s) (j:=i) U U U U U hA1 (xS ?_)
   refine aM 24 true U ?_ ?_
   ·rw[bne_iff_ne];intro h;have e1:(10:UInt8).toNat=10:=U;exact hA2 (aa2.1 av)
   refine xS ?_
   refine X.W (ih ⟨(i+1,fr,at_,n),⟨.inl ⟨hA1,by grind,?_,hE⟩,by grind,by grind⟩⟩ gm)
   intro x hx
   dsimp only at hx
   rw[show i+1 - fr=(i - fr)+1 from by omega,List.take_succ]at hx
   grind
  ·
   have aI0:splitB 10 (s.drop fr)=(s.drop fr).take (i - fr)::(if i<s.length then splitB 10 (s.drop (i+1))else[]):=by
    by_cases hi:i<s.length
    ·rw[if_pos hi]
     have Ml:s[i]=10:=by
      grind
     have e:s.drop fr=(s.drop fr).take (i - fr)++10::s.drop (i+1):=by
      conv=>lhs;rw[<-cP (i - fr) (s.drop fr)]
      rw[List.drop_drop,show fr+(i - fr)=i from by omega,aP hi,Ml]
     grind [aC9]
    grind [aw5]
   rw[aI0,an2]at hE
   refine ab0 (ι:=Unit) (λ_=>([(0,ao s),(4,aX n),(5,aX at_),(6,aX fr),(7,aX i),(24,.bool false)],[])) (λ_=>?_) (λK fin=>?_)
   ·dsimp only;refine xS ?_;refine mM (l:=fr) (h:=i) U U U (Bd.at U U) (Bd.at U U) hfi h ?_;have hk:=aL8 ((s.drop fr).take (i - fr)) sI;have hk2:=aM2 ((s.drop fr).take (i - fr));generalize ao7 ((s.drop fr).take (i - fr))=kk at*;refine xJ hk ?_;by_cases h2:kk=2
    ·subst h2;rw[if_pos U]at hE;subst hE;refine aM 31 true U iA (xS ?_);exact VI
    ·rw[if_neg h2]at hE
     refine aM 31 false U bB (xS ?_)
     refine X.W (ih ⟨(i+1,i+1,at_+1,n+kk),⟨?_,by dsimp only;omega,by dsimp only;omega⟩⟩ gm)
     grind [an2]
   ·by_cases hi:i<s.length
    ·have Ml:s[i]=10:=by
      grind
     refine aM 19 true U bB (xS ?_);refine kz (l:=s) (j:=i) U U U U U hi ?_;rw[Ml];exact aB5
    ·refine aM 19 false U bB (xS ?_);exact X.W (fin ())
 ·have h:i=s.length+1:=by
   grind
  have hE:res=(n,0):=by
   grind
  subst hE;refine xS ?_;exact VI
def aA7(a:Bs):Int:=if a≠[]/\a.getLast?≠some 10 then -1 else(a.count 10:Nat)
theorem aF0(a:Bs)(hs:a.length<=1000000000000000000):TR ab GG 16 #[ao a] [] (cT (.int .i64 (aA7 a))):=by
 refine cg U λb β hb hG=>xS ?_;refine eT [0] [] (ι:={z:Nat×Nat // z.1<=a.length/\z.2=(a.take z.1).count 10}) (λz q_=>(3,aX z.1.2)::(4,aX z.1.1)::q_) (λz q_=>q_) (λz=>a.length - z.1.1) ⟨(0,0),al _,U⟩ ?_;rintro⟨⟨i,n⟩,hi,hn⟩ ih;dsimp only at hi hn ⊢;have Vr:n<=a.length:=by grind [List.count_le_length]
 refine xB ?_ ?_<;>intro h
 ·have h:i<a.length:=by grind
  have Bi:(a.take (i+1)).count 10=n+if a[i]=10 then 1 else 0:=by
   grind [List.take_append_getElem]
  refine xS ?_;refine kz (l:=a) (j:=i) U U U U U h (xS ?_);by_cases hc:a[i]=10
  ·rw[if_pos hc]at Bi;refine aM 14 true U (by rw[hc];rfl) (xS ?_);exact X.W (ih ⟨(i+1,n+1),by omega,Bi.symm⟩ bE)
  ·rw[if_neg hc]at Bi;refine aM 14 false U ?_ ?_
   ·rw[beq_eq_false_iff_ne];intro h;have e1:(10:UInt8).toNat=10:=U;exact hc (aa2.1 av)
   refine xS ?_;exact X.W (ih ⟨(i+1,n),by omega,Bi.symm⟩ bE)
 ·have h:i=a.length:=by grind
  subst h;rw[aD (ar _)]at hn;subst hn;refine xS ?_;unfold aA7;by_cases ha:a=[]
  ·subst ha;refine aM 20 false U iA  ?_;exact xR
  ·have zW:0<a.length:=fy.2 ha;refine aM 20 true U bB (xS ?_);refine kz (l:=a) (j:=a.length - 1) U U U U av av ?_;have hgl:a.getLast?=some (a[a.length - 1]' av):=bE;rw[hgl];generalize a[a.length - 1]' av=x at*;refine xS ?_;by_cases hx:x=10
   ·subst hx;rw[if_neg nH];refine aM 27 false U iA  ?_;exact xR
   ·rw[if_pos ⟨ha,by grind⟩];refine aM 27 true U ?_ ?_
    ·rw[bne_iff_ne];intro h;have e1:(10:UInt8).toNat=10:=U;exact hx (aa2.1 av)
    exact xR
def ac0(b:Bs):Prop:=∀x∈b,x≠10
theorem ac0.app{a:Bs}(h:ac0 a)(h2:ac0 b):ac0 (a++b):=λx hx=>(cM.1 hx).elim (h x) (h2 x)
theorem ac0.cons{c:UInt8}(h:c≠10)(h2:ac0 b):ac0 (c::b):=λx hx=>(bK.1 hx).elim (λe=>e▸h) (h2 x)
theorem ac0.nil:ac0 []:=λx hx=>by cases hx
theorem aA5{α:Type}{f:α->Bs}{l:List α}(h:∀x,ac0 (f x)):ac0 (l.flatMap f):=λx hx=>by
 obtain⟨y,_,h2⟩:=List.mem_flatMap.1 hx;exact h y x h2
theorem bm8(n:Nat)(h:n<16):lV n≠10:=by
 have:∀n:Fin 16,lV n.1≠10:=de;exact this ⟨n,h⟩
theorem aN2:ac0 (o7 c):=by
 have hc:=c.toNat_lt
 unfold o7
 split
 ·rename_i h;exact ac0.cons (λe=>by simp_all) ac0.nil
 grind [ac0.cons,bm8,ac0.nil]
theorem ao2:ac0 (iV s):=by
 grind [iV,ac0,aN2]
theorem aD0(u:Nat):ac0 (gT u):=by
 induction u using Nat.strongRecOn with
 |ind u ih=>
  have key:∀n,n<10->cu (48+n)≠10:=λn hn=>by
   have:∀n:Fin 10,cu (48+n.1)≠10:=de;exact this ⟨n,hn⟩
  rw[gT]
  split
  ·grind [ac0.cons,ac0.nil]
  ·exact(ih (u / 10) av).app (ac0.cons (key _ av) ac0.nil)
theorem aq1(n:Int):ac0 (gK n):=by
 grind [gK,ac0.cons,aD0]
theorem ae4(h:l.all (·!=10)=true):ac0 l:=λx hx=>by grind
theorem ad0(e:Int):ac0 (gF e):=by
 unfold gF
 split
 ·grind [ae4]
 ·exact(ae4 _ de).app (aq1 _)
theorem aD6(n:Bs):∀l,ac0 (vf n l)
 |[]=>ad0 _
 |f::r=>by
  unfold vf;split
  ·exact(ae4 _ de).app (ao2 _)
  ·exact aD6 n r
theorem am6(f:fJ->(fJ×be)×Bs)(h:∀s,ac0 (f s).2):ac0 (x.tA f).2:=by
 grind [mq.tA,ae4]
theorem bJ1(a:jB):ac0 (x.do a).2:=by
 cases a with
 |LU k=>exact ad0 _
 |ma t k1 k2=>
  show ac0 (BJ _);unfold BJ;split
  ·exact ad0 _
  ·exact(((((((ae4 _ de).app (aq1 _)).app (ae4 _ de)).app (aD0 _)).app (ae4 _ de)).app (aq1 _)).app (ae4 _ de)).app (aq1 _)
 |put k v=>exact am6 _ _ λs=>ad0 _
 |del ks=>exact am6 _ _ λs=>ad0 _
 |get k=>
  refine am6 _ _ λs=>?_;show ac0 (aq6 _);unfold aq6;split
  ·exact ad0 _
  ·split
   ·exact ae4 _ de
   ·exact(ae4 _ de).app (ao2 _)
 |sync=>exact am6 _ _ λs=>ad0 _
 |merge=>exact am6 _ _ λs=>ad0 _
 |close=>exact am6 _ _ λs=>ad0 _
 |keys=>exact am6 _ _ λs=>(ae4 _ de).app (aA5 λk=>ac0.cons de (ao2 _))
 |all=>exact am6 _ _ λs=>(ae4 _ de).app (aA5 λk=>ac0.cons de ((ao2 _).app (ac0.cons de (ao2 _))))
 |last=>exact am6 _ _ λs=>(ae4 _ de).app (aD0 _)
 |fail k=>exact(ad0 (x.fZ.fail k).2:ac0 (gF _))
 |brk k t=>exact(ad0 (x.fZ.break k (t==tw)).2:ac0 (gF _))
 |ji k=>exact ae4 [111,107] de
 |dm m=>exact ad0 _
 |files=>exact(ae4 _ de).app (aA5 λf=>ac0.cons de ((ao2 _).app (ac0.cons de (aq1 _))))
 |read t=>exact aD6 _ _
 |used=>exact(ae4 _ de).app (aq1 _)
theorem az3:∀(A:List jB) (x:mq),(x.outs A).count 10=A.length/\(x.outs A=[]\/(x.outs A).getLast?=some 10)
 |[],x=>⟨U,.inl U⟩
 |a::r,x=>by
  obtain⟨h1,h2⟩:=az3 r (x.do a).1;have h3:(x.do a).2.count 10=0:=List.count_eq_zero.2 λh=>bJ1 x a 10 h U;rw[mq.outs];refine⟨by rw[List.count_append,List.count_append,h1,h3];simp;omega,.inr ?_⟩;rcases h2 with h2|h2
  ·rw[h2];simp
  ·rw[List.getLast?_append,h2];rfl
theorem aC3(A:List jB)(x:mq):aA7 (x.outs A)=A.length:=by
 grind [az3,aA7]
def ndC(nd:Bs):Option UInt8:=if nd=[110]then some 110 else if nd=[120]then some 120 else if nd=[116]then some 116 else if nd=[100,101,101,112,124,102,97,115,116]then some 111 else if nd=[98,101,102,111,114,101,124,98,101,104,105,110,100]then some 119 else none
theorem aC7(x:Bs):exB (wC x)=exB (si x):=by
 unfold wC;split
 ·rename_i h;subst h;rfl
 ·rfl
theorem aG2{nd:Bs}{ch:UInt8}(h:ndC nd=some ch)(c:xM)(x:Bs)(r:List Bs):(av8 ch x=true->∃c',EJ nd c (x::r)=.ok (c',r))/\(av8 ch x=false->EJ nd c (x::r)=.error ()):=by
 unfold ndC at h
 split at h
 ·grind [av8,EJ]
 ·split at h
  ·rename_i e;cases h;subst e;rw[show av8 120 x=exB (zr x)from rfl];unfold EJ;dsimp only;rw[if_neg de,if_pos U];cases zr x with
   |ok n=>exact⟨λ_=>⟨_,U⟩,λh=>by cases h⟩
   |error e=>exact⟨λh=>(by cases h),λ_=>rfl⟩
  ·split at h
   ·rename_i e;cases h;subst e;rw[show av8 116 x=exB (si x)from rfl,<-aC7];unfold EJ;dsimp only;rw[if_neg de,if_neg de,if_pos U];cases wC x with
    |ok n=>exact⟨λ_=>⟨_,U⟩,λh=>by cases h⟩
    |error e=>exact⟨λh=>(by cases h),λ_=>rfl⟩
   ·have alt:∀(nd:Bs) (a b:Bs) (hs:splitB 124 nd=[a,b]) (d1:nd≠[110]) (d2:nd≠[120]) (d3:nd≠[116]) (d4:nd≠[84]),((x==a||x==b)=true->∃c',EJ nd c (x::r)=.ok (c',r))/\((x==a||x==b)=false->EJ nd c (x::r)=.error ()):=by
     grind [EJ]
    split at h
    ·rename_i e;cases h;subst e;exact alt _ [100,101,101,112] [102,97,115,116] de de de de de
    ·split at h
     ·rename_i e;cases h;subst e;exact alt _ [98,101,102,111,114,101] [98,101,104,105,110,100] de de de de de
     ·cases h
theorem az9:∀(nds:List Bs) (n:Bs) (c:xM) (r:List Bs),nds.map ndC=n.map some->exB (ja nds c r)=allFit n r
 |[],[],c,[],_=>rfl
 |[],[],c,_::_,_=>rfl
 |[],_::_,_,_,h=>by cases h
 |_::_,[],_,_,h=>by cases h
 |nd::ns,ch::n,c,r,h=>by
  simp only[aK,List.cons.injEq]at h;unfold ja;cases r with
  |nil=>rfl
  |cons x r=>
   obtain⟨h1,h2⟩:=aG2 h.1 c x r;rw[allFit];cases hf:av8 ch x with
   |true=>
    obtain⟨c',h3⟩:=h1 hf;rw[h3,Bool.true_and];exact az9 ns n c' r h.2
   |false=>rw[h2 hf];rfl
theorem aA0:∀r:List Bs,exB (mL r)=allFit (bI r.length 116) r
 |[]=>rfl
 |x::r=>by
  have ih:=aA0 r;rw[mL,ax,List.replicate_succ,allFit,<-ih,show av8 116 x=exB (si x)from rfl,<-aC7];cases wC x with
  |error e=>rfl
  |ok q=>cases mL r<;>rfl
theorem bn4:∀s∈Ty,(s.ib.map ndC=(ak9 s.name).map some/\ak9 s.name≠[63]/\ak9 s.name≠[84])\/(s.ib=[[84]]/\ak9 s.name=[84]):=de
theorem bo2:∀x∈ay0,(Ty.find? (λs=>s.name=x.1)).isSome=true:=de
theorem aN4(r:List Bs):exB (tR (w::r))=true/\ao5 (ak9 w) r=1\/exB (tR (w::r))=false/\ao5 (ak9 w) r=2:=by
 unfold tR;dsimp only;cases hs:B9 w with
 |none=>
  have e:ak9 w=[63]:=by
   grind [ak9,bo2,B9]
  rw[e];exact .inr ⟨U,U⟩
 |some s=>
  have hm:s∈Ty:=Y hs
  have hn:s.name=w:=by simpa using List.find?_some hs
  subst hn
  dsimp only
  rcases bn4 s hm with⟨h1,h2,h3⟩|⟨h1,h2⟩
  ·grind [az9,ao5]
  ·rw[h1,h2];have e:ao5 [84] r=if r=[]then 2 else if allFit (bI r.length 116) r then 1 else 2:=by grind [ao5]
   rw[e,<-aA0];cases r<;>grind [exB,ja,EJ]
theorem bo7:(∀e,Hn l=.error e->ao7 l=2)/\(∀cs,Hn l=.ok cs->ao7 l≠2/\cs.length=ao7 l):=by
 unfold Hn ao7 am3
 by_cases h:cy yO 0 l<0
 ·rw[if_pos h,if_pos h];cases iG l with
  |nil=>grind
  |cons w r=>
   dsimp only
   by_cases h3:w.headD 0=35
   ·grind
   ·rw[if_neg h3,if_neg h3];rcases aN4 w r with⟨h1,h2⟩|⟨h1,h2⟩
    ·rw[h2];cases hr:tR (w::r)with
     |error e=>rw[hr]at h1;cases h1
     |ok c=>grind
    ·rw[h2];cases hr:tR (w::r)with
     |ok c=>rw[hr]at h1;cases h1
     |error e=>grind
 grind
theorem aA4:∀(ls:List Bs) (i:Nat) (acc:List xM),an2 (i+1) acc.length ls=match kJ i ls acc with|.error j=>(0,j)|.ok cs=>(cs.length,0)
 |[],i,acc=>rfl
 |l::r,i,acc=>by
  obtain⟨h1,h2⟩:=bo7 l;rw[an2,kJ];cases hl:Hn l with
  |error e=>rw[if_pos (h1 e hl)]
  |ok cs=>
   obtain⟨h3,h4⟩:=h2 cs hl;rw[if_neg h3,<-h4,<-aG];exact aA4 r (i+1) (acc++cs)
theorem ay2:an2 1 0 (splitB 10 s)=match kK s with|.error j=>(0,j)|.ok cs=>(cs.length,0):=aA4 (splitB 10 s) 0 []
theorem aO4:TR ab GG 5 #[ao s] [] (cT (.bool true)):=by
 refine cg U λb β hb hG=>?_;obtain⟨a,i,e,h1,h2⟩:=au5 s;obtain⟨he,ub,_⟩:=h1.e;refine xJ ZO ?_;refine xK h2 ?_;rcases h1 with⟨h,rfl,rfl,rfl⟩|⟨h,hp,hi,rfl,rfl⟩|⟨h,A,hp,_,_,rfl,rfl,rfl⟩
 ·refine aM 20 true U bB  ?_;exact xR
 ·refine aM 20 false U bB (xS ?_);have hk:=aB8 s av;rw[ay2,hp]at hk;refine xJ hk ?_;refine aM 37 true U bB (xS ?_);refine aM 45 true U nH  ?_;exact xR
 ·refine aM 20 false U bB (xS ?_);have hk:=aB8 s av;rw[ay2,hp]at hk;refine xJ hk ?_;have hln:=aF0 (tB.outs A) av;rw[aC3]at hln;refine xJ hln ?_;refine bO hb (.tmps U) ⟨by simp[lx],U⟩
end
end Go.Proofs
namespace Go.Proofs
open Go Go.Sl YtcicblljnenhoaaGreatDoor
open Go.ChangeShapes Go.WideShapes Go.RowKit Go.ChangeMaps
set_option maxRecDepth 8000
section
set_option maxRecDepth 100000
theorem labLines_lifted(os:Os)(started:os.Started)(H:Type)(bo:TypeId×Value->H):
 ReturnsInHanded {} Tryz.checked os 5 .any (λw args=>(Rows.labLinesSpec.pre bo ab Tryz.f5 [] false w args/\laidMetH ab uK w)/\sizedMet bo ab Tryz.f5 (OpenSpec.ofChange Rows.labLinesSpec) false w args)
  (Rows.labLinesSpec.post bo ab Tryz.f5 false true false false):=by
 refine returnsInHanded_of_change_and (C:=Tryz.checked) (X:=λw _=>laidMetH ab uK w) (λ_ _ _ hh h=>h.of_heap hh) by5 started cA Tryz.func5
  (ChangeSpec.witness_shaped (C:=Tryz.checked) (os:=os) (X:=λw _=>laidMetH ab uK w) false (lw os) #[.string ⟨#[]⟩] 8 U (World.shaped_of_RefB (la os _) (lb os _)) cA cA cA (br6 os _)) ?_
 intro W base args ds gs before hval0 hW _ hz hL _
 have LR:∀(j:Nat) t v,Tryz.f5.params[j]?=some t->args[j]?=some v->Value.okWide ab W .any base t v:=hval0
 have hW':=hW
 obtain⟨p,q,hA0,hV,rfl,hfz,jd⟩:=hW
 have hA:DataW.TrodAll bo ab W 0 (λ_=>true) true Tryz.f5.params.toList args.toList ds p:=hA0
 rw[Tryz.params5]at hA LR
 obtain⟨v0,d0,rfl,rfl,h0⟩:=trodAll_one hA
 obtain⟨rfl,rfl⟩:=trodVars_none hV
 obtain⟨s,rfl,rfl,rfl,hs⟩:=open_string cO (LR 0 9 v0 U U) h0
 have ht:=aO4 s.data.toList
 have e:∀b:ByteArray,Value.string b=ao b.data.toList:=λb=>rfl
 rw[<-e]at ht
 refine(ZQ ht (ah0 hL)).mono λe W' ⟨he,hk⟩=>?_
 subst he
 simp only[ah]at hW'
 refine⟨_,U,_,_,_,[],[],[],hW',?_,?_,?_,World.keptBut_mono (λ_ h=>h.elim) hk,λh=>by cases h⟩
 ·exact trodAll_mk1 (shut_bool fY true)
 ·exact trodAll_mk1 (shut_string cO hs)
 ·rfl
end
end Go.Proofs
