/- A part of the proof of LabPlays. -/
import Derived.Below
import Derived.Calls
import Derived.ChangeMaps5
import Derived.ChangeSame
import Derived.ChangeStays
import Derived.ChangeVars
import Derived.Conc.MuLone
import Derived.Deep.Frames
import Derived.Deep.Slices
import Derived.Defers
import Derived.Ground.NamesProg
import Derived.Ground.SlgmProg
import Derived.Ground.SlsfProg
import Derived.Handed
import Derived.IntWalk
import Derived.JoinedOf
import Derived.KernelRfl
import Derived.LaidEql
import Derived.LaidHandle
import Derived.LaidLaws
import Derived.LaidMore
import Derived.LaidOnce
import Derived.LaidSub
import Derived.Laws.AppendOwn
import Derived.Laws.Build
import Derived.Laws.BytesArg
import Derived.Laws.Cells
import Derived.Laws.CopyRow
import Derived.Laws.Entries
import Derived.Laws.Externs
import Derived.Laws.MakeOwn
import Derived.Laws.OwnMore
import Derived.Laws.RangeString
import Derived.Laws.Slices
import Derived.Laws.StructEq
import Derived.Lib.AppendStr
import Derived.Lib.AtoiErrMem
import Derived.Lib.Builder
import Derived.Lib.BytesEntry
import Derived.Lib.ConvBytes
import Derived.Lib.IfaceEq
import Derived.Lib.ItoaLen
import Derived.Lib.ItoaNum
import Derived.Lib.LaidTab
import Derived.Lib.Space
import Derived.Lib.UnsafeStr
import Derived.Maps.RangeRun
import Derived.OpenShut
import Derived.OrdersHeld
import Derived.OrdersIn
import Derived.RangeFuncCalls
import Derived.RangeFuncIn
import Derived.RangeFuncRecord
import Derived.Recover
import Derived.RowKit
import Derived.RowKitTokens
import Derived.Shelf.Abstract
import Derived.Shelf.SlGeneric
import Derived.Shelf.SlSortCmp.NoneTotal
import Derived.Shelf.SortM.Plain
import Derived.Shelf.SortM.SortNone
import Derived.Shelf.Strconv.Atoi
import Derived.Shelf.Strconv.Clone
import Derived.Shelf.Strconv.Itoa2
import Derived.Shelf.Strconv.Itoa3
import Derived.Shelf.Strings.SplitShaped
import Derived.Sort.OwnSorted
import Derived.Stop.Asserts
import Derived.Stop.Joined
import Derived.Tactics
import Derived.TacticsIn
import Derived.WalkKit
import Derived.WalkSmall
open Array renaming getElem?_eq_some_iff->fB,getElem?_modify->fW,getElem?_toList->eE
open Bool renaming false->aQ,false_eq_true->di,true->aP
open Go renaming Addr->aX,Ending->aZ,Frame->bc,Oper->aW,Operand->aY,Program->aT,Value->aR,World->aV,execOp->aU
open Go.Instr renaming checkKey->iI,loadAt->jP,sliceBounds->iA,sureAddr->gh
open Int renaming toNat_natCast->gS
open Go.IntKind renaming bits->iM,i64->eu,signed->jX,u32->fi,u64->ee,u8->dS,wrap->jm
open Go.Lib renaming countByte->cZ,indexByte->dT
open List renaming Perm.cons->iJ,Perm.swap->fM,all_eq_true->gi,append_assoc->cB,append_nil->bj,cons_append->bh,drop_eq_getElem_cons->bP,drop_of_length_le->cx,ext_getElem?->fq,findIdx?_eq_some_iff_getElem->cA,flatMap_cons->ei,foldl_cons->eD,getElem?_eq_getElem->bX,getElem?_map->eX,getElem_map->gG,length->eP,length_append->bK,length_cons->bL,length_map->bF,length_nil->dU,length_pos_iff->gL,length_set->fJ,length_take->dG,map_append->dx,map_congr_left->cY,map_cons->bN,map_map->dK,mem_append->du,mem_cons->cW,mem_map->cu,mem_singleton->cK,nil_append->bk,perm_append_comm->cH,perm_middle->gF,replicate->cQ,size_toArray->eW,sum_cons->fS,take_add_one->cg,take_append_drop->dV,take_length->bV,take_of_length_le->bI,take_succ_eq_append_getElem->dO
open Nat renaming add_mul->ic,beq->eU,blt->bM,eq_of_beq_eq_true->fX,le_add_right->bW,le_of_ble_eq_true->bH,le_refl->bz,le_succ->iz,le_trans->bo,mul_le_mul_right->eB,zero_add->bT,zero_le->bp
open Go.Op renaming equalIn->gq
open Option renaming getD_some->dz,map_eq_some_iff->cz,map_some->cO,none->aO,some->aN,some.injEq->gR
open Go.Result renaming andThen->jq,andThen_ok->bJ
open Go.Sem renaming run->gz,run_bind->cb,run_pure->db
open UInt32 renaming ofNat->iN
open UInt8 renaming ofNat->cV
open Go.Value renaming bool->lx
open Go.World renaming cell?->gl
open _root_ renaming Array->ar,Bool->ai,ByteArray->aJ,DecidableEq->aG,Int->ae,List->Y,Nat->ab,Option->ah,String->aC,UInt32->av,UInt64->az,UInt8->au,Unit->aA,absurd->aD,congrArg->aH,decide_eq_false->aM,if_false->aI,if_neg->aj,if_pos->ao,inferInstance->ax,outParam->ay
set_option linter.all false
set_option maxHeartbeats 4000000
theorem U.{u}{α:Sort u}{a:α}:a=a:=rfl

section
variable{p:Prop}
theorem mz0(h:p:=by
 rintro v B (⟨he,rfl,rfl⟩|⟨he,p,rfl,rfl⟩)
 ·refine xD ?_;exact nz (l:=[.nilIface]) (us:=[bu S]) (cap:=[]) hb hG (iw GG S D x) (.tmps U) ⟨_,sy.ok' he,bA⟩
 ·refine xD ?_;exact nz (l:=[.iface 178 (bu p)]) (us:=[bu S]) (cap:=[]) hb hG (iw GG S D x) (.tmps U) ⟨_,sy.err he,bA⟩):p:=h
theorem mz1(h:p:=by
 have hp:(pre++[S[i].1]++(S.eraseIdx i).map (·.1)).Perm (M.map (·.1)):=by
  grind [p9]
 refine xS ?_;refine B0 U U U (xS ?_);refine tM hG (hY pre S[i].1 ⟨_,hp⟩) U U U U ?_ ?_
 ·refine xD ?_;exact X.W (ih ⟨(pre++[S[i].1],S.eraseIdx i,aN S[i]),hp⟩ bQ)
 ·refine xD ?_;refine BW r ?_;exact X.ret hb (.tmps U) ⟨_,.inr U,bA⟩):p:=h
theorem mz2(h:p:=by
 refine yM s.place H2 U U U U ?_;rw[mr];refine xS ?_;refine X.W (rb ⟨(j+1,iT V s.place (.int .i64 (eu.wrap (cn+1)))),by dsimp only;omega,uO hVn _ _,rJ hVi ⟨_,U⟩,λx=>by dsimp only;rw[AR,hV x,xy x,or_assoc]⟩ oQ)):p:=h
theorem mz4(h:p:=by
 exact cT hb (.jf U U (.tmp U .nil)) ⟨U,U⟩):p:=h
theorem mz5(h:p:=by
 refine xS ?_;exact cT hb (.jf U U (.tmp U .nil)) ⟨U,U⟩):p:=h
theorem YS(h:p:=by
 refine dH U λb O hb hG=>?_;refine xP ?_;intro p;exact cT hb (.tmps U) ⟨p,U,U⟩):p:=h
theorem mz8(h:p:=by
 exact X.less (ih ⟨(f,c+1),by dsimp only;omega,by dsimp only at hfc ⊢;omega,hE⟩ oQ) (s2_ U (dI U dW)) (bS.nil _)):p:=h
theorem Hk(h:p:=by
 intro p hp;refine xS ?_;refine eA (j:=0) U U U U U bw (xS ?_);exact hp):p:=h
theorem bJ3(h:p:=by
 ·have low:=low bw;refine yT 125 (97<=(wF ch).toNat) (¬97<=(wF ch).toNat) ?_ ?_<;>intro h5
  ·refine yB ((wF ch).toNat<=122) (¬(wF ch).toNat<=122) ?_ ?_<;>intro h6
   ·have hdv:sJ ch=(wF ch).toNat - 87:=bQ;refine xS ?_;exact X.less (fin ⟨(),by omega⟩) (Sub.cons U (Sub.cons U (Sub.cons U (Sub.cons U (Sub.cons U (Sub.cons U (Sub.cons (dI U (by rw[hdv,show((wF ch).toNat:ae) - 97=(((wF ch).toNat - 97:ab):ae)from by omega,wrap_u8 _ bw,show(((wF ch).toNat - 97:ab):ae)+10=(((wF ch).toNat - 87:ab):ae)from by omega,wrap_u8 _ bw])) (Sub.of U)))))))) bA
   ·refine xS ?_;refine rN U U U (xS ?_);exact bad bQ U U
  ·refine xS ?_;refine rN U U U (xS ?_);exact bad bQ U U):p:=h
theorem bJ4(h:p:=by
 refine xS ?_;exact X.less (ih ⟨(f,c+1),by dsimp only;omega,by dsimp only at hfc ⊢;omega,hE⟩ oQ) (s2_ U (dI U dW)) (bS.nil _)):p:=h
theorem bW9(h:p:=by
 refine X.dE (fE hI _) ?_;refine gr qD C c U ⟨aa,ac,KB,OB,ks,oz⟩ ?_;exact cT hb (.tmps U) ⟨by grind [mv],U⟩):p:=h
theorem bL4(h:p:=by
 refine eN U U U U U ?_ ?_
 ·refine IF U U U U U (xS ?_);refine yM s.place H2 U U U U ?_;rw[mr];refine xS ?_;refine X.W (rb ⟨(j+1,iT V s.place (.int .i64 (eu.wrap (cn+1)))),by dsimp only;omega,uO hVn _ _,rJ hVi ⟨_,U⟩,λx=>by dsimp only;rw[AR,hV x,xy x,or_assoc]⟩ oQ)
 ·refine xS ?_;refine IF U U U U U (xS ?_);refine yM s.place H2 U U U U ?_;rw[mr];refine xS ?_;refine X.W (rb ⟨(j+1,iT V s.place (.int .i64 (eu.wrap (cn+1)))),by dsimp only;omega,uO hVn _ _,rJ hVi ⟨_,U⟩,λx=>by dsimp only;rw[AR,hV x,xy x,or_assoc]⟩ oQ)):p:=h
theorem aE3(h:p:=by
 rintro v B ⟨rfl,rfl⟩;refine xD ?_;refine xB ?_ ?_<;>intro h2
 ·rw[ao bw]at hE;refine xS ?_;exact cT hb (.tmps U) ⟨by rw[hE];rfl,U⟩
 ·rw[aj bQ]at hE;refine xS ?_;exact X.W (ih ⟨i+1,by omega,hE⟩ bQ)):p:=h
theorem bW2(h:p:=by
 refine X.dE (fE hp _) ?_;refine gr vS M m U ⟨q,pa,pc,ss,sa,sc,fa,fc,fx⟩ ?_;refine fC hG hb (A8 GG M L m nm right a9 _ c9 U PA h9 hm bw bw bw) U U U eC (λe he=>⟨e,by rw[he],U,U⟩) ?_;rintro m1 h1 v B ⟨rfl,rfl⟩;rw[h1];refine xD ?_;exact cT hb (.tmps U) ⟨_,U,U,U⟩):p:=h
theorem bW5(h:p:=by
 refine xS ?_;refine IF U U U U U (xS ?_);refine yM s.place H2 U U U U ?_;rw[mr];refine xS ?_;refine X.W (rb ⟨(j+1,iT V s.place (.int .i64 (eu.wrap (cn+1)))),by dsimp only;omega,uO hVn _ _,rJ hVi ⟨_,U⟩,λx=>by dsimp only;rw[AR,hV x,xy x,or_assoc]⟩ oQ)):p:=h
theorem bI5(h:p:=by
 refine eA (j:=j+1) U U U U bw bw (xS ?_);refine pA (cC:=en) (l:=q) (j+1) q[j] U U U U (λ_=>rfl) (bT _) jT U U (xS ?_);refine eA (j:=j) U U U U bw bw (xS ?_);refine pA (cC:=en) (l:=q.set (j+1) q[j]) (j) q[j+1] U U U U (λ_=>rfl) (bT _) (by simpa using mX) U U (xS ?_);refine X.less (rb ⟨(j,qy q (j+1) j),by dsimp only;omega,by rw[xM];exact g2,?_⟩ oQ) (s6_ U U U U U (dI U dW)) ?_
 ·rw[<-g3];exact(ao (show a0<j+1/\sI lt q (j+1) j=aP from⟨hj,h6⟩)).symm
 ·dsimp only;rw[wB jT mX];exact bA):p:=h
theorem az5(h:p:=by
 refine xS ?_;refine cT hb (.tmps U) ⟨by rw[hE];rfl,U⟩):p:=h
theorem U5(h:p:=by
 have gj:i=n:=bQ;subst gj;rw[cx bw]at hE;refine xS ?_;refine cT hb (.tmps U) ⟨by rw[hE];rfl,U⟩):p:=h
theorem bN5(h:p:=by
 rw[kD,aj tD]at ih;refine xE (kb GG b3 acc 37 bw) ?_;refine jG (l:=d16) (j:=x.toNat / 16) U U U U (xq .u8 x.toNat 4 eK) aK9 ?_;rw[EL];refine xE (kb GG b3 (acc++[37]) (ji (x.toNat / 16)) fD) ?_;refine jG (l:=d16) (j:=x.toNat%16) U U U U (aj9 x) aK9 ?_;rw[EL];refine xE (kb GG b3 (acc++[37]++[ji (x.toNat / 16)]) (ji (x.toNat%16)) fD) ?_;rw[show acc++[37]++[ji (x.toNat / 16)]++[ji (x.toNat%16)]=acc++[37,ji (x.toNat / 16),ji (x.toNat%16)]from by simp];exact X.W ih):p:=h
theorem bI7(h:p:=by
 refine xB ?_ ?_<;>intro h5
 ·have h6:p ((i+j) / 2)=aP:=bI9;rw[a14 h4 h6]at g5;refine xS ?_;refine X.less (ih ⟨(f3,(i+j) / 2+1,j),by dsimp only;omega,by dsimp only;omega,g3,by dsimp only;omega,g5⟩ oQ) (Sub.cons U (Sub.cons U (Sub.cons U (Sub.cons U (Sub.cons U (Sub.cons (dI U dW) (Sub.of U))))))) bA
 ·have h6:¬p ((i+j) / 2)=aP:=bR2;rw[a15 h4 h6]at g5;refine xS ?_;exact X.W (ih ⟨(f3,i,(i+j) / 2),by dsimp only;omega,g2,by dsimp only;omega,by dsimp only;omega,g5⟩ oQ)):p:=h
theorem bI8(h:p:=by
 refine eA (j:=k) U U U U bw bw (xS ?_);refine pA (cC:=en) (l:=q) (k) q[k - 1] U U U U (λ_=>rfl) (bT _) jT U U (xS ?_);refine eA (j:=k - 1) U U U U bw bw (xS ?_);refine pA (cC:=en) (l:=q.set (k) q[k - 1]) (k - 1) q[k] U U U U (λ_=>rfl) (bT _) (by simpa using mX) U U (xS ?_);refine X.less (ih ⟨(cn,k - 1,qy q k (k - 1)),by dsimp only;omega,by dsimp only;omega,by rw[xM];exact g2,g3⟩ oQ) (s7_ U U U U U U (dI U fD)) ?_;dsimp only;rw[wB jT mX];exact bA):p:=h
theorem bp6(h:p:=by
 rintro _ _ ⟨rfl,rfl⟩;refine xB ?_ ?_<;>intro h1
 ·refine xS ?_;exact cT hb (.tmps U) ⟨by grind [mv,bR,oJ],U⟩
 ·refine xB ?_ ?_<;>intro h2
  ·refine xS ?_
   refine cT hb (.tmps U) ⟨?_,U⟩
   grind [mv,bR,oJ]
  ·refine xS ?_
   refine cT hb (.tmps U) ⟨?_,U⟩
   grind [mv,bR,oJ]):p:=h
theorem bM3(h:p:=by
 refine xS ?_;refine eN U U U U U ?_ ?_
 ·refine X.add U U U U bw bw (xS ?_);refine EV r oe U U U U λjj st H2=>xS ?_;refine yM r H2 U U U U ?_;rw[mr];refine xS ?_;exact X.W (dF ())
 ·refine EV r oe U U U U λjj st H2=>xS ?_;refine eN U U U U U ?_ ?_
  ·refine X.add U U U U bw bw (xS ?_);refine yM r H2 U U U U ?_;rw[mr];refine xS ?_;exact X.W (dF ())
  ·refine xS ?_;refine yM r H2 U U U U ?_;rw[mr];refine xS ?_;exact X.W (dF ())):p:=h
theorem bI4(h:p:=by
 refine eA (j:=a0+i) U U U U bw bw (xS ?_);refine pA (cC:=en) (l:=m) (a0+i) m[b0+i] U U U U (λ_=>rfl) (bT _) mX U U (xS ?_);refine eA (j:=b0+i) U U U U bw bw (xS ?_);refine pA (cC:=en) (l:=m.set (a0+i) m[b0+i]) (b0+i) m[a0+i] U U U U (λ_=>rfl) (bT _) (by simpa using jT) U U (xS ?_);refine X.less (ih ⟨(k,i+1,qy m (a0+i) (b0+i)),by dsimp only;omega,by rw[xM];exact h2,h3⟩ oQ) (MN U U U U (dI U dW)) ?_;dsimp only;rw[wB mX jT];exact bA):p:=h
theorem bI6(h:p:=by
 refine eA (j:=k) U U U U bw bw (xS ?_);refine pA (cC:=en) (l:=q) (k) q[k+1] U U U U (λ_=>rfl) (bT _) jT U U (xS ?_);refine eA (j:=k+1) U U U U bw bw (xS ?_);refine pA (cC:=en) (l:=q.set (k) q[k+1]) (k+1) q[k] U U U U (λ_=>rfl) (bT _) (by simpa using mX) U U (xS ?_);refine X.less (ih ⟨(cn,k+1,qy q k (k+1)),by dsimp only;omega,by rw[xM];exact g2,g3⟩ oQ) (s7_ U U U U U U (dI U dW)) ?_;dsimp only;rw[wB jT mX];exact bA):p:=h
theorem af0(h:p:=by
 subst e0;refine xS ?_;exact cT hb (.jf U U (.tmp U .nil)) ⟨U,U⟩):p:=h
theorem HC(h:p:=by
 exact XJ):p:=h
theorem by0(h:p:=by
 exact X.fin hb (.tmps U) ⟨_,⟨U,_,_,hy.zT pZ,by grind [lG],U⟩,bA⟩):p:=h
theorem bJ5(h:p:=by
 rw[hT]at hE;dsimp only at hE;refine xS ?_;exact X.less (ih ⟨(f,c+1),by dsimp only;omega,by dsimp only at hfc ⊢;omega,hE⟩ oQ) (s2_ U (dI U dW)) (bS.nil _)):p:=h
theorem bJ2(h:p:=by
 refine xS ?_;exact cT hb (.tmps U) ⟨by rw[hE];rfl,U⟩):p:=h
theorem U2(h:p:=by
 subst hS;refine xS ?_;refine BW r ?_;exact X.fin hb (.tmps U) ⟨_,.inl ⟨pre,by grind,U⟩,bA⟩):p:=h
theorem bQ0(h:p:=by
 intro pp qb;refine xS ?_;refine lO (l:=p) (h:=p+1) U U U (Bd.at U U) (Bd.at U dW) bw (by show p+1<=16;omega) ?_;first|rw[C3 p hp]|rw[show([48,49,50,51,52,53,54,55,56,57,97,98,99,100,101,102]:Bs)=h16 from rfl,C3 p hp]
 refine xS ?_;refine lO (l:=q) (h:=q+1) U U U (Bd.at U U) (Bd.at U dW) bw (by show q+1<=16;omega) ?_;first|rw[C3 q hq]|rw[show([48,49,50,51,52,53,54,55,56,57,97,98,99,100,101,102]:Bs)=h16 from rfl,C3 q hq]
 refine xS ?_;exact qb):p:=h
theorem bV8(h:p:=by
 refine Ep b7 1 [cV s.kind.toNat] U U U ?_;refine jz Y5 U λh9=>?_;generalize hv9:gn [s.fQ]=w9 at*;refine jA (zs:=[cV s.kind.toNat]) U U U U U fD λa30 c30=>xS ?_;exact X.W (fin (a30,c30))):p:=h
theorem bQ4(h:p:=by
 refine EW b61 1 4 U U ?_;refine Yf (l:=0) (h:=1+q2) U U U Bd.no (Bd.at U bw) bw bw λ_=>?_;rw[Nat.sub_zero,Nat.sub_zero,show qw (aN ⟨b61,0,aO⟩) 4 0 1=aN ⟨b61,0,aO⟩from rfl];refine Al (a:=aN ⟨b61,0,aO⟩) (1+q2) bw (xS ?_);refine Ys (cC:=Ee) (aN ⟨b61,0,aO⟩) L hL1 hL2.symm ?_;exact X.less (dF ⟨(L,aN ⟨b61,0,aO⟩,4),by grind,by grind,hL3⟩) (s6_ U U U U U (dI U (by simp[hL2]))) bA):p:=h
theorem bU0(h:p:=by
 refine X.ret hb (.tmps U) ⟨_,⟨by rw[e0];rfl,by rw[e0]⟩,?_⟩;exact bS.trans bA (iS _)):p:=h
theorem bK7(h:p:=by
 refine bD 64 aQ U (by simp[hz]) (xS ?_);refine X.dE (fE hp _) ?_;refine gr vS M m U ⟨q,pa,pc,ss,sa,sc,fa,fc,fx⟩ ?_;refine yL fY.data ⟨1,nm,[],[],0⟩ U ?_;refine fC hG hb (GC GG M m (⟨1,nm,[],[],0⟩,aO,0) (bo hm.now bw) (bo hm.steps bw) bQ) U U U eC (λe he=>⟨e,by rw[he],U,U⟩) ?_;rintro m1 h1 v B ⟨rfl,rfl⟩;rw[h1];refine xD ?_;exact cT hb (.tmps U) ⟨_,U,U,U⟩):p:=h
theorem bV4(h:p:=by
 have h6:¬p ((i+j) / 2)=aP:=bR2;rw[a15 h4 h6]at g5;refine xS ?_;exact X.W (ih ⟨(f3,i,(i+j) / 2),by dsimp only;omega,g2,by dsimp only;omega,by dsimp only;omega,g5⟩ oQ)):p:=h
theorem by2(h:p:=by
 rintro _ _ ⟨rfl,y2,A2,hy2,qx,rfl⟩;dsimp only[bh,bk,bj];refine xS ?_;exact X.less (ih y2 _ hy2 bw) (Sub.cons U (Sub.cons U (Sub.cons (dI U nM) (Sub.nil _)))) bA):p:=h
theorem bX3(h:p:=by
 refine xS ?_;refine X.st U U U U U kN cE ?_;refine X.go 1 U U ?_;refine X.uv ?_;refine nU U U U U ?_;refine X.go 1 U U ?_;refine X.uv ?_;refine Kj U U ?_;exact X.W (fin ⟨(b4,_,XX),hR⟩)):p:=h
theorem bM5(h:p:=by
 refine xS ?_;refine yM r H2 U U U U ?_;rw[mr];refine xS ?_;exact X.W (dF ())):p:=h
theorem bp4(h:p:=by
 rintro e B hB;cases e with
 |panicked ch=>exact hB.elim
 |outgrown=>exact hB.elim
 |returned v=>
  rcases hB with⟨rfl,rfl⟩|⟨rfl,rfl⟩
  ·exact⟨_,.inl ⟨U,U⟩,iS _⟩
  ·exact⟨_,.inr ⟨U,U⟩,iS _⟩):p:=h
theorem bU1(h:p:=by
 refine xS ?_;refine X.ret hb (.tmps U) ⟨_,⟨by rw[e0];rfl,by rw[e0]⟩,?_⟩;exact bS.trans bA (iS _)):p:=h
theorem bM7(h:p:=by
 intro p hp;refine xS ?_;refine sQ (zv:=.int .i64 0) r oe U U U U (λw _=>ze.run (P:=be) (t:=3) ax w) ?_;rw[qM];refine xS ?_;refine bD 12 aP U fD (xS ?_);refine bD 16 aQ U (by simp[hki]) (xS ?_);refine tP (zv:=.map aO) r.key U U U U ?_;rw[hg,dz];refine xS ?_;refine P4 U U U (xS ?_);refine bD 27 aQ U fD (xS ?_);exact hp):p:=h
theorem bM6(h:p:=by
 intro p hp;refine xS ?_;refine sQ (zv:=.int .i64 0) r oe U U U U (λw _=>ze.run (P:=be) (t:=3) ax w) ?_;rw[qM];refine xS ?_;refine bD 12 aP U fD (xS ?_);refine bD 16 aQ U (by simp[hki]) (xS ?_);refine tP (zv:=.map aO) r.key U U U U ?_;rw[hg,Option.getD_none];refine xS ?_;refine ax0 U U U (xS ?_);refine bD 27 aQ U dW (xS ?_);exact hp):p:=h
theorem bW6(h:p:=by
 subst gj;rw[cx bw]at hE;refine xS ?_;exact cT hb (.tmps U) ⟨by rw[hE];rfl,U⟩):p:=h
theorem bs6(h:p:=by
 ·dsimp only;rw[kl];exact(MN U U U U (dI U nM))
 ·dsimp only;rw[kl];exact bA):p:=h
theorem bJ6(h:p:=by
 refine jx tu (λx=>[tT x]) [s.fQ] U (λ_=>rfl) ?_;refine cP (ow G _ 1 1 [s.fQ] U bw) ?_;rintro _ _ ⟨Y5,c10,rfl,rfl⟩;refine xD ?_;refine Ep b7 1 [cV s.kind.toNat] U U U ?_;refine jz Y5 U λh9=>?_;generalize hv9:gn [s.fQ]=w9 at*;refine jA (zs:=[cV s.kind.toNat]) U U U U U fD λa30 c30=>xS ?_;exact X.W (fin (a30,c30))):p:=h
theorem bW7(h:p:=by
 refine ku Ptr (cy Ptr.cs) 5 ?_;refine XT ((⟨(cR x.1.name).2,x.1.data,aQ,[]⟩,yP,x.2,(aO,0)):SI) jT mX ?_;exact X.W (dF ⟨(⟨(cR x.1.name).2,x.1.data,aQ,[]⟩,(aO,0)),T5,U⟩)):p:=h
theorem bG4(h:p:=by
 refine xS ?_;refine pj (l:=m) (h:=l.length) U U U U (Bd.at U U) Bd.no hm (bz _) hc λa3 c3 hc3=>?_;have hld:((l.drop m).take (l.length - m))=l.drop m:=br3;rw[hld];have hlm:l.length - m=(l.drop m).length:=dW;rw[hlm]at hc3 ⊢;refine xS ?_;exact X.ret hb (.tmps U) ⟨_,⟨by rw[e];rfl,U⟩,by rw[e];exact pB mT p (l.drop m,w) U ⟨(a3,c3),hc3⟩⟩):p:=h
theorem bN7(h:p:=by
 refine xS ?_;refine fC hG hb (kH GG aQ) U U U (bS.refl _) (λe he=>⟨(),by rw[tD];rfl,U,U⟩) (λx hx=>by cases hx)):p:=h
theorem bQ8(h:p:=by
 ·rw[Tryz.underlying39]at hu;cases hu
 ·rw[gE]at hu;cases hu
 ·rw[gD]at hu;cases hu):p:=h
theorem bN9(h:p:=by
 refine Yd w dy U U U U (zv:=.agg #[.slice aO 0 0,.nilFunc,.nilFunc]) (λw _=>Tryz.zeroValue121 w) ?_;rw[hM1,hM2];refine X.uv ?_;refine xL [5,6,7] ?_;refine xS ?_;refine X.st U U U U U kN cE ?_;refine X.go 1 U U ?_;refine X.uv ?_;refine nU U U U U ?_;refine X.go 1 U U ?_;refine X.uv ?_;refine Kj U U ?_;exact X.W (fin ⟨(b4,_,XX),hR⟩)):p:=h
theorem bG8(h:p:=by
 have hi:i<xs.length:=bQ;refine xS ?_;refine dJ U U U U U hi hn λbl o=>xS ?_;rw[ky _ xs i hi]at hE;refine xB ?_ ?_<;>intro h2
 ·rw[ao bw]at hE;refine xS ?_;refine cT hb (.tmps U) ⟨by rw[hE];rfl,U⟩
 ·rw[aj bQ]at hE;refine xS ?_;refine X.less (ih ⟨i+1,by omega,hE⟩ bQ) (Qm U U U (dI U nM)) (bS.drop _ _)):p:=h
theorem bQ3(h:p:=by
 refine cP hT ?_;rintro v C hO;obtain⟨q,⟨⟨fa,fn,fc⟩,m1,m2,m3⟩,e,rfl,hO⟩:=hO.shape;dsimp only at hO ⊢;refine X.dE (ew cH) (xD ?_);apply dB [17,18,19] U U U
 ·intro pp qb;refine xS ?_;exact qb
 ·rfl
 ·rfl
 refine xS ?_;exact X.less (dF ⟨(b6,q,((fa,fn,fc),m1,m2,m3),e,C),hO⟩) (Sub.of U) (bS.cons _ (bS.cons _ (bS.cons _ (oh _ _))))):p:=h
theorem bT4(h:p:=by
 refine xD ?_;exact X.W (ih ⟨(pre++[S[i].1],S.eraseIdx i,aN S[i]),hp⟩ bQ)):p:=h
theorem aE4(h:p:=by
 have gj:i=n:=bQ;subst gj;rw[cx bw]at hE;refine xS ?_;exact cT hb (.tmps U) ⟨by rw[hE];rfl,U⟩):p:=h
theorem VD(h:p:=by
 refine xS ?_;exact cT hb (.tmps U) ⟨by grind [mv],U⟩):p:=h
theorem at1(h:p:=by
 refine xS ?_;exact X.fin hb (.tmps U) ⟨_,⟨U,_,_,hy.zT pZ,by grind [lG],U⟩,bA⟩):p:=h
theorem Z0(h:p:=by
 constructor<;>first|kernel_rfl|(intros;kernel_rfl)|(constructor<;>first|kernel_rfl|(intros;kernel_rfl))):p:=h
theorem bT5(h:p:=by
 refine xD ?_;refine BW r ?_;exact X.ret hb (.tmps U) ⟨_,.inr U,bA⟩):p:=h
theorem bG9(h:p:=by
 ·rw[aj bQ]at e0;refine xB ?_ ?_<;>intro h5
  ·rw[ao bQ]at e0;refine xS ?_;refine X.ret hb (.tmps U) ⟨_,⟨by rw[e0];rfl,by rw[e0]⟩,?_⟩;exact bS.trans bA (iS _)
  ·rw[aj bQ]at e0;refine xS ?_;refine X.ret hb (.tmps U) ⟨_,⟨by rw[e0];rfl,by rw[e0]⟩,?_⟩;exact bS.trans bA (iS _)):p:=h
theorem bK5(h:p:=by
 refine xS ?_;refine X.dE (fE hp _) ?_;refine gr vS M m U ⟨q,pa,pc,ss,sa,sc,fa,fc,fx⟩ ?_;refine fC hG hb (A8 GG M L m nm right a9 _ c9 U PA h9 hm bw bw bw) U U U eC (λe he=>⟨e,by rw[he],U,U⟩) ?_;rintro m1 h1 v B ⟨rfl,rfl⟩;rw[h1];refine xD ?_;exact cT hb (.tmps U) ⟨_,U,U,U⟩):p:=h
theorem bT8(h:p:=by
 refine xS ?_;refine X.less (ih ⟨i+1,by omega,hE⟩ bQ) (Qm U U U (dI U nM)) (bS.drop _ _)):p:=h
theorem bX0(h:p:=by
 refine UH Wm ks t ht (ek,eb,ez) ?_;rw[yF];refine X.dE (fE hI _) ?_;refine gr qD C c U ⟨aa,ac,KB,OB,ks,oz⟩ ?_;exact cT hb (.tmps U) ⟨by grind [mv],U⟩):p:=h
theorem bL2(h:p:=by
 exact cT hb (.tmp U (.jf U cE (.tmp U .nil))) ⟨U,U⟩):p:=h
theorem bN3(h:p:=by
 rintro v B (⟨he,rfl,rfl⟩|⟨he,p,rfl,rfl⟩)
 ·refine xD ?_;exact nz (l:=[.nilIface]) (us:=[bu S]) (cap:=[]) hb hG (iw GG S D x1) (.tmps U) ⟨_,sy.ok' he,bA⟩
 ·refine xD ?_;exact nz (l:=[.iface 178 (bu p)]) (us:=[bu S]) (cap:=[]) hb hG (iw GG S D x1) (.tmps U) ⟨_,sy.err he,bA⟩):p:=h
theorem ai8(h:p:=by
 subst cD;refine xS ?_;exact cT hb (.jf U cE (.tmp U .nil)) ⟨U,U⟩):p:=h
theorem bK6(h:p:=by
 have h1:=qA m.now I.toNat (hix bw);have h2:=ub m.now (I.toNat+1);have h3:m.now[I.toNat]'(hix bw)=q[I.toNat].1:=by
  have:tE m.now I.toNat=m.now[I.toNat]'(hix bw):=by unfold tE;simp[List.getD,bX (hix bw)]
  rw[<-this,<-l6,Gk q _ hiq]
 rw[h3]at h1;omega):p:=h
theorem aB4(h:p:=by
 refine xS ?_;exact X.ret hb (.tmps U) ⟨_,⟨by rw[e0];rfl,by rw[e0]⟩,rZ (M:=M) (dq:=dq) eI kl⟩):p:=h
theorem bE2(h:p:=by
 cases k with
 |pr p=>exact(hk.out p U).elim
 |it k=>exact qj hw ⟨λ_ _=>trivial,by rw[Fe _ hr dW];exact h⟩
 |dr=>show wpList _ _ _ _ _ _;unfold wpList;rw[hw];refine .inl ?_;unfold Oper.wp;rw[hr];exact h
 |uv=>show wpList _ _ _ _ _ _;unfold wpList;rw[hw];refine .inl ?_;unfold Oper.wp;rw[hr];exact h):p:=h
theorem bt8(h:p:=by
 ·rfl
 ·rfl
 refine xS ?_;refine X.dE (fE hI _) ?_;refine gr qD C c U ⟨aa,ac,KB,OB,ks,oz⟩ ?_;exact cT hb (.tmps U) ⟨by grind [mv],U⟩):p:=h
theorem bM4(h:p:=by
 refine xS ?_;refine eN U U U U U ?_ ?_
 ·refine X.add U U U U bw bw (xS ?_);refine yM r H2 U U U U ?_;rw[mr];refine xS ?_;exact X.W (dF ())
 ·refine xS ?_;refine yM r H2 U U U U ?_;rw[mr];refine xS ?_;exact X.W (dF ())):p:=h
theorem bQ5(h:p:=by
 refine dJ U U U U U hi U λbl o=>?_;rw[hqi];refine xS ?_;refine eT U U U U  ?_;refine xZ ?_;intro b25;refine fH (((⟨nm,dt⟩,ya,yc):WB ca)) U U U U bw U cE cE cE cE cE bw λa9 c9=>xS ?_;exact X.W (ih (a9,c9))):p:=h
theorem bT9(h:p:=by
 rw[aj bQ]at hE;refine xS ?_;refine X.less (ih ⟨i+1,by omega,hE⟩ bQ) (Qm U U U (dI U nM)) (bS.drop _ _)):p:=h
theorem bM8(h:p:=by
 refine xZ ?_;intro b44;refine fH (((e,a8,c8):WB Bs)) U U U U bw U cE cE cE cE cE bw λa45 c45=>?_;refine bC7 bsA Z ((e,a8,c8):WB Bs) (xS ?_);exact X.W (ih ⟨(i+1,(a45,c45),Z++[((e,a8,c8):WB Bs)]),by omega,by grind⟩ bQ)):p:=h
theorem by3(h:p:=by
 ·rw[Tryz.underlying27]at hu;cases hu
 ·rw[Tryz.underlying39]at hu;cases hu
 ·rw[gE]at hu;cases hu
 ·rw[gD]at hu;cases hu):p:=h
theorem bK9(h:p:=by
 refine xS ?_;refine fC hG hb (A8 GG M (L+3) m2 name fr a7 _ c7 U h72 h71 ad6 bw bw bw) U U U eC (λe he=>⟨e,by rw[yN,vI,he],U,U⟩) ?_;rintro m3 h3 v B ⟨rfl,rfl⟩;rw[h3]at vI;refine xD ?_;exact X.W (dF ⟨(m3,nm2),vI⟩)):p:=h
theorem aH1(h:p:=by
 subst cD;refine xS ?_;exact cT hb (.jf U cE (.cell U cE .nil)) ⟨U,U⟩):p:=h
theorem bG2(h:p:=by
 refine xS ?_;refine dJ U U U U U hk hn λb2 o2=>xS ?_;rw[show gT xs[k]=.int .u8 xs[k].toNat from rfl];refine xB ?_ ?_<;>intro h8
 ·refine xS ?_
  refine out (0,0,23) ?_ ?_ ?_ ?_
  ·grind
  all_goals rfl
 ·refine xS ?_;refine X.W (fin ⟨(),hl.2 (λh=>by grind)⟩)):p:=h
theorem bL0(h:p:=by
 rw[h0]at hs;have h1:=VS.freeze (cC:=λx:au=>[gT x]) F U (λ_=>rfl) O w hs;refine h1.dE ?_;intro r o ir;obtain⟨o1,o2,hd,h1,h2,hp,vQ⟩:=ir;refine⟨o1,o2,hd,h1,h2,λr' pg y hy=>?_,vQ⟩;rw[cK.1 hy];refine⟨?_,?_,hp r' pg⟩;all_goals grind):p:=h
theorem LR(h:p:=by
 intro pp qb;refine xS ?_;exact qb):p:=h
theorem bL8(h:p:=by
 intro x hx;obtain⟨i,hi,rfl⟩:=List.mem_iff_getElem.1 hx;have h1:=qA (q.map (·.1)) i K5;have h2:=ub (q.map (·.1)) (i+1);rw[gG]at h1;have h3:=kC (eI _ (cu.2 ⟨_,hx,U⟩));exact⟨by omega,by omega⟩):p:=h
theorem bO1(h:p:=by
 ·refine bD 14 aP U fD (xS ?_);exact cT hb (.tmps U) ⟨by simp only[Dm.ref];rw[ao hc];rfl,U⟩
 ·refine bD 14 aQ U fD (xS ?_);exact cT hb (.tmps U) ⟨by simp only[Dm.ref];rw[aj hc];rfl,U⟩):p:=h
theorem UA(h:p:=by
 exact X.fin hb (.tmps U) ⟨_,⟨U,_,_,hy.zT pZ,by rw[lG];omega,U⟩,bA⟩):p:=h
theorem bc2(h:p:=by
 exact X.W (ih ⟨i+1,by omega⟩ bQ)):p:=h
theorem bh9(h:p:=by
 refine sQ a.word dy U U U U (zv:=.agg #[.slice aO 0 0,.nilFunc,.nilFunc]) (λw _=>Tryz.zeroValue121 w) ?_;rw[hM1];refine xS ?_;refine X.st U U U U U (ShR.one _ _ _ _) cE (xS ?_);exact X.W (dF (b5,aq,sh.iU.length))):p:=h
theorem aq6(h:p:=by
 exact⟨(mL.refl h).mono bw,λe he=>by cases he;(constructor<;>first|decide|(dsimp only;decide)),λz hz=>by cases hz⟩):p:=h
theorem bG3(h:p:=by
 refine xS ?_;exact X.ret hb (.tmps U) ⟨_,⟨by rw[e];rfl,U⟩,by rw[e];exact pB mT p (l,aP) U ⟨(a,c),hc⟩⟩):p:=h
theorem am2(h:p:=by
 refine xP ?_;intro b3;exact xR):p:=h
theorem a61(h:p:=by
 have hT:wG name c=aO:=by rw[hT,aj dW]
 rw[hT]at hE;dsimp only at hE;refine xS ?_;exact X.less (ih ⟨(f,c+1),by dsimp only;omega,by dsimp only at hfc ⊢;omega,hE⟩ oQ) (s2_ U (dI U dW)) (bS.nil _)):p:=h
theorem Tm(h:p:=by
 refine dH U λb O hb hG=>xS ?_;exact cT hb (.tmps U) ⟨by simp[mv],U⟩):p:=h
theorem bL5(h:p:=by
 refine xS ?_;refine hU [bx b4 153 p.cs,bx b5 9 [bn body]] ?_;exact cT hb (.jf U U (.tmp U .nil)) ⟨U,U⟩):p:=h
theorem a92(h:p:=by
 refine xS ?_;refine X.less (ih ⟨(i+1,aN ⟨bl8,0,aO⟩,c8),by omega,by simp⟩ bQ) ?_ ?_
 ·dsimp only;rw[kl,uB];exact(az1 U U U U U U U U U (dI U nM))
 ·dsimp only;rw[kl];exact bA):p:=h
theorem Zy(h:p:=by
 ·exact(gm _).trans (ko (by rw[ir];simp[oU]) [])
 ·rintro v B ⟨rfl,rfl⟩;rw[<-e1];refine xD ?_;exact xR):p:=h
theorem Jg(h:p:=by
 refine xS ?_;exact cT hb (.tmps U) ⟨_,U,U⟩):p:=h
theorem T8(h:p:=by
 subst cD;refine xS ?_;refine gr eL (S,D,1) x U (W,K) ?_;exact X.W (dF ())):p:=h
theorem bh7(h:p:=by
 exact X.less (dF ⟨(b6,p,((fa,fn,fc),m1,m2,m3),e,C),hO⟩) (Sub.of U) (bS.cons _ ((oh _ _).trans ((oh _ _).trans ((oh _ _).trans ((oh _ _).trans (bS.cons _ ((oh _ _).trans (oh _ _))))))))):p:=h
theorem Tn(h:p:=by
 refine xS ?_;exact cT hb (.jf U U (.tmp U .nil)) ⟨by rw[hp];rfl,U⟩):p:=h
theorem bO4(h:p:=by
 split<;>exact XJ):p:=h
theorem bN2(h:p:=by
 subst ey;refine xS ?_;exact cT hb (.jf U U (.tmp U .nil)) ⟨U,U⟩):p:=h
theorem bd0(h:p:=by
 refine xS ?_;refine ku Ptr (cy Ptr.cs) 5 ?_;refine XT ((⟨(cR x.1.name).2,x.1.data,aQ,[]⟩,yP,x.2,(aO,0)):SI) jT mX ?_;exact X.W (dF ⟨(⟨(cR x.1.name).2,x.1.data,aQ,[]⟩,(aO,0)),T5,U⟩)):p:=h
theorem al1(h:p:=by
 exact fC hG hb (kH GG aQ) U U U (bS.refl _) (λ_ _=>⟨(),l6,U,U⟩) (λx hx=>by cases hx)):p:=h
theorem MX(h:p:=by
 refine xS ?_;exact cT hb (.tmps U) ⟨by simp[mv,h],U⟩):p:=h
theorem bL7(h:p:=by
 ·dsimp only;rw[PI];exact(s6_ U U U U U (dI U nM))
 ·dsimp only;rw[PI];exact bA):p:=h
theorem bb8(h:p:=by
 refine rM x.key dy U U U U ?_;rw[V6];refine xS ?_;refine X.less (ih ⟨i+1,by omega⟩ oQ) (Qm U U U (dI U nM)) ?_;dsimp only;rw[kl];exact bA):p:=h
theorem bc0(h:p:=by
 intro r o ir;obtain⟨o1,o2,_,_,_,hp,_⟩:=hf.out r o ir;exact⟨gI,o,ef _,dQ _,.refl _,λr' pg=>(hp r' pg x hx).1.2.2,gI,o,ef _,dQ _,.refl _,λr' pg=>(hp r' pg x hx).2,ir⟩):p:=h
theorem bd3(h:p:=by
 refine xS ?_;refine X.less (rb ⟨(i+1,a2,c2),by dsimp only;omega⟩ oQ) ?_ ?_
 ·dsimp only;rw[PI];exact(s6_ U U U U U (dI U nM))
 ·dsimp only;rw[PI];exact bA):p:=h
theorem aY2(h:p:=by
 refine xS ?_;refine jd (fst:=[]) (us:=[]) (cap:=cap) hG qL U U U U bS.es ?_;rintro v B ⟨rfl,rfl⟩;refine xD ?_;exact X.ret hb (.tmps U) ⟨[bx D 74 [_,_,_,_,_,_,_,_],S'],⟨U,U⟩,bA⟩):p:=h
theorem be7(h:p:=by
 ·rfl
 ·rfl
 refine xS ?_;refine UH Wm ks t ht (ek,eb,ez) ?_;rw[yF];refine X.dE (fE hI _) ?_;refine gr qD C c U ⟨aa,ac,KB,OB,ks,oz⟩ ?_;exact cT hb (.tmps U) ⟨by grind [mv],U⟩):p:=h
theorem aY5(h:p:=by
 rw[ao h2]at h4 ⊢;rw[ao (show(fP s dq).iu=1 from h2),ao (show(fP s dq).iu=1 from h2)];exact⟨_,⟨U,U⟩,bS.ej (s:=s.qu) (dq:=eu.wrap (dq+1)) h4 hS⟩):p:=h
theorem ac5(h:p:=by
 exact X.ret hb (.tmps U) ⟨_,⟨U,U⟩,(pB lz D t U (M,dq)).trans (jQ ht [])⟩):p:=h
theorem aZ6(h:p:=by
 rintro v B ⟨rfl,rfl⟩;rw[<-e1];refine xD ?_;exact xR):p:=h
theorem ad7(h:p:=by
 exact X.W (rb ⟨j+1,by omega⟩ oQ)):p:=h
theorem a19(h:p:=by
 dsimp only;rw[kl];exact bA):p:=h
theorem Je(h:p:=by
 refine xS ?_;exact X.W (fin ())):p:=h
theorem ZE(h:p:=by
 all_goals first|kernel_rfl|(intros;kernel_rfl)|(constructor<;>first|kernel_rfl|(intros;kernel_rfl))):p:=h
theorem am3(h:p:=by
 cases o with
 |none=>
  refine xP ?_;intro b3;exact xR
 |some s=>
  refine xP ?_;intro b3;exact xR):p:=h
theorem aj8(h:p:=by
 ·refine xD ?_;exact cT hb (.tmp U (.jf U cE (.tmp U .nil))) ⟨he,p,U,U⟩):p:=h
theorem bc5(h:p:=by
 rw[List.set_append_right _ _ bw,h1,Nat.sub_self,bP h,List.set_cons_zero,cg,bX h,dx,cB];rfl):p:=h
theorem bg7(h:p:=by
 have tD:zM w=aQ:=by grind [zM]
 refine xS ?_;refine fC hG hb (kH GG aQ) U U U (bS.refl _) (λe he=>⟨(),by rw[tD];rfl,U,U⟩) (λx hx=>by cases hx)):p:=h
theorem aY4(h:p:=by
 ·rw[aj h2]at h4 ⊢;rw[aj (show ¬(fP s dq).done=aP from h2)];exact⟨_,⟨U,U⟩,bS.ej (s:={s.qu with down:=aP}) (dq:=eu.wrap (dq+1)) h4 hS⟩):p:=h
theorem a18(h:p:=by
 refine eA (j:=(i+j) / 2) U U U U bw bw (xS ?_);refine ja (cC:=en) (l:=l) ((i+j) / 2) U U U U (λ_=>rfl) (bT _) mX (xS ?_);exact qb):p:=h
theorem Ur(h:p:=by
 ·split<;>exact XJ):p:=h
theorem aj2(h:p:=by
 rw[e2]at ey;subst ey;refine xS ?_;exact cT hb (.jf U U (.tmp U .nil)) ⟨U,U⟩):p:=h
theorem a97(h:p:=by
 refine xS ?_;refine eN U U U U U ?_ ?_
 ·refine xS ?_;refine eN U U U U U ?_ ?_;all_goals
   refine xS ?_
   exact X.W hf
 ·refine xS ?_;exact X.W hf):p:=h
theorem ak0(h:p:=by
 exact cT hb (.tmps U) ⟨by rw[cD];rfl,U⟩):p:=h
theorem bg5(h:p:=by
 refine xS ?_;exact cT hb (.tmps U) ⟨by rw[<-hq];rfl,U⟩):p:=h
theorem a69(h:p:=by
 refine X.less (ih ⟨(i+1,a8,c8),by omega⟩ bQ) ?_ ?_
 ·dsimp only;rw[kl];exact(MN U U U U (dI U nM))
 ·dsimp only;rw[kl];exact bA):p:=h
theorem Yv(h:p:=by
 intro n z hn;unfold Hp.one at hn;split at hn
 ·rename_i e;cases hn;rw[e];exact hb
 ·cases hn):p:=h
theorem Tr(h:p:=by
 exact z7 hb (.tmps U) ⟨_,⟨a6,c6,U,U⟩,bA⟩):p:=h
theorem bf5(h:p:=by
 intro p hp;refine xS ?_;refine bD 27 aQ U fD (xS ?_);refine eA U U U U U hi (xS ?_);refine qP U U U 1 U U (xS ?_);exact hp):p:=h
theorem a01(h:p:=by
 rw[ao h];have hl:=QL h;refine xS ?_;refine lO (h:=s.length - p.length) U U U Bd.no (Bd.at U bw) (bp _) (Nat.sub_le _ _)  ?_;exact xR):p:=h
theorem bH4(h:p:=by
 rw[ao bw]at hE;refine xS ?_;refine cT hb (.tmps U) ⟨by rw[hE];rfl,U⟩):p:=h
theorem aX0(h:p:=by
 refine X.ret hb (.tmps U) ⟨_,⟨by rw[e0];rfl,by rw[e0]⟩,?_⟩;dsimp only[ofL];rw[show(PE:ae)+1=((PE+1:ab):ae)from by simp];exact bS.trans bA (iS _)):p:=h
theorem YJ(h:p:=by
 simp only[hyx,decide_false,di,aI];cases ks.findIdx? (·=x)<;>grind):p:=h
theorem ac8(h:p:=by
 refine bZ U λb O hb hG=>?_;refine xP ?_;intro b2;refine xP ?_;intro b3;exact xR):p:=h
theorem bb7(h:p:=by
 rw[e1]at kl;refine xS ?_;refine X.less (ih ⟨i+1,by omega⟩ oQ) (Qm U U U (dI U nM)) ?_;dsimp only;rw[kl];exact bA):p:=h
theorem aV8(h:p:=by
 refine xS ?_;refine X.W (fin ⟨(),hl.2 (λh=>by grind)⟩)):p:=h
theorem aZ3(h:p:=by
 have e0:=bad p e nC h1;refine xS ?_;exact X.ret hb (.tmps U) ⟨_,⟨[],by rw[e0];exact .inr ⟨h1,U,U⟩,by rw[e0]⟩,rZ (M:=M) (dq:=dq) eI kl⟩):p:=h
theorem bg9(h:p:=by
 rw[CQ]at HX;exact fC hG hb (wX y bw) U U U (bS.refl _) (λ_ _=>⟨(),hE1 ⟨_,HX⟩,U,U⟩) (λx hx=>by rw[CQ]at hx;cases hx)):p:=h
theorem bb3(h:p:=by
 intro l;induction l with
 |nil=>exact bz _
 |cons x t iht=>
  unfold V4;split
  ·rw[bL];omega
  ·rw[bL,bL];omega):p:=h
theorem be3(h:p:=by
 refine X0 U U bw U eK (xS ?_);refine EX (l:=0) (h:=i) U U U Bd.no (Bd.at U U) bw bw ?_;rw[a42];exact xR):p:=h
theorem Oa(h:p:=by
 rintro v B ⟨rfl,rfl⟩;refine xD ?_;exact xR):p:=h
theorem a04(h:p:=by
 refine⟨gI,o,ef _,dQ _,.refl _,λr' pg x hx=>?_,hh⟩;rcases du.1 hx with hx|hx
 ·exact l6 r' pg x hx
 ·exact vo r' pg x hx):p:=h
theorem aV9(h:p:=by
 rw[ao bQ]at e;refine xS ?_;exact X.ret hb (.tmps U) ⟨_,⟨by rw[e];rfl,U⟩,by rw[e];exact pB mT p (l,aP) U ⟨(a,c),hc⟩⟩):p:=h
theorem TY(h:p:=by
 refine xS ?_;exact X.W (ih ⟨i+1,by omega⟩ bQ)):p:=h
theorem bj1(h:p:=by
 by_cases h12:21<(fw x.1).length
 ·simp only[h12,decide_true,if_true];omega
 ·simp only[h12,decide_false];simp only[di,aI];omega):p:=h
theorem aV5(h:p:=by
 ·refine xS ?_
  refine X.less (fin ⟨(0,rU f,⟨f.kind,.zero,.zero,f.fin⟩),e4⟩) (MN U U U U (dI U ?_)) bA
  grind [rU]):p:=h
theorem bO3(h:p:=by
 split
 ·exact bz _
 ·exact CU (k:=0) (Nat.le_of_eq (Uk _ _ _))):p:=h
theorem bh0(h:p:=by
 have hp:lq (i+1) (L.drop (i+1)) (q.map (·.1)++[])=res:=hp;rw[bj]at hp;exact X.W (ih ⟨(i+1,q,a,c),by omega,hp,by grind⟩ bQ)):p:=h
theorem aX3(h:p:=by
 refine Ki b20 hn qn ?_;refine xJ (Fv G _ 1 1 [xs] U bw fD) ?_;rw[hcr];dsimp only[UY];refine xS ?_;exact X.W (fin b8)):p:=h
theorem a47(h:p:=by
 refine ph [0,1,3] [0] ?_;refine xL [0,1,3] ?_;refine xJ (NI GG U s hs) ?_;refine xP ?_;intro p;exact cT hb (.tmps U) ⟨p,U,U⟩):p:=h
theorem bM9(h:p:=by
 exact X.W (ih ⟨i+1,by omega⟩ oQ)):p:=h
theorem aW9(h:p:=by
 refine xS ?_;exact out aQ bQ U):p:=h
theorem aU5(h:p:=by
 refine hc.mono ?_;rintro e u' w' ⟨rfl,⟨v,rfl⟩,Fi⟩;have h4:=sT B w' Fi;exact⟨_,oo (hl O a w' he h4),⟨C,h2,h4.dE h3⟩⟩):p:=h
theorem bk3(h:p:=by
 exact X.fin hb (.tmps U) ⟨_,⟨U,_,[.dm m,.read nm],by have:=H3.zT hrd;rwa [cB]at this,by grind [lG],U⟩,bA⟩):p:=h
theorem a90(h:p:=by
 rw[ao h1];refine xS ?_;exact X.ret hb (.tmps U) ⟨_,⟨U,U⟩,(bS.ej (s:=t) (dq:=dq) eI (bS.refl _)).trans (jQ ht [])⟩):p:=h
theorem bd8(h:p:=by
 refine xS ?_;refine Am Z j hjZ (⟨no,data,wN,gw⟩,xb,(xa,xc),(ya,yc)) ?_;rw[hbs];exact X.W (rb ⟨j+1,by omega⟩ oQ)):p:=h
theorem ba8(h:p:=by
 have hd:s.down=aP:=hd;rw[ao hd]at cD;subst cD;refine xS ?_;exact cT hb (.tmp U (.jf U cE (.tmp U .nil))) ⟨U,U⟩):p:=h
theorem a'9(h:p:=by
 refine h3.dE (SX F λr Lj hr2 y hy=>?_);rcases cW.1 hy with rfl|hy
 ·exact hr2 y (cK.2 U)
 ·exact Lj y hy):p:=h
theorem bK1(h:p:=by
 exact(az1 U U U U U U U U U (dI U nM))):p:=h
theorem ap4(h:p:=by
 exact⟨h,mL.refl hd,by constructor<;>first|decide|(dsimp only;decide)⟩):p:=h
theorem aj6(h:p:=by
 subst cD;refine xS ?_;refine gr eL (S,D,l) x U (W,K) ?_;exact xR):p:=h
theorem bh6(h:p:=by
 rw[hn];rintro _ _ ⟨D1,rfl,rfl⟩;refine xD ?_;refine xJ (nS 0 bw bw) ?_;exact cT hb (.tmps U) ⟨U,D1,U⟩):p:=h
theorem bR1(h:p:=by
 rw[gD]at hu;cases hu):p:=h
theorem bR0(h:p:=by
 rw[gE]at hu;cases hu):p:=h
theorem a'8(h:p:=by
 exact⟨_,_,_,_,_,N' GG b6 b7 e,bS.es,.jf U cE (.cell U cE .nil),(by subst cD;exact⟨U,U⟩),bS.nil _⟩):p:=h
theorem bb2(h:p:=by
 intro fs;cases ks with
 |nil=>simp at h
 |cons y ks0=>
  simp only[bN,List.cons.injEq]at h;simp[Instr.findNow,h.1,Instr.sameNow]):p:=h
theorem ab3(h:p:=by
 ·subst h4;rw[aE7]at g5;subst g5;refine xS ?_;exact X.W (fin ())):p:=h
theorem ZH(h:p:=by
 simp only[List.append_eq,bk,bh];exact bA):p:=h
theorem a'0(h:p:=by
 refine X.dE (fE hp _) ?_;refine gr vS M m U ⟨q,pa,pc,ss,sa,sc,fa,fc,fx⟩ ?_;exact cT hb (.tmps U) ⟨_,U,U,U⟩):p:=h
theorem bb6(h:p:=by
 subst e0;refine xS ?_;refine hU [bx b4 153 p.cs,bx b5 9 [bn body]] ?_;exact cT hb (.jf U U (.tmp U .nil)) ⟨U,U⟩):p:=h
theorem aZ4(h:p:=by
 exact(gm _).trans ((bS.drop _ _).trans ((bS.drop _ _).trans ((bS.drop _ _).trans ((bS.drop _ _).trans (ko kl [])))))):p:=h
theorem bf2(h:p:=by
 refine Kr (by rw[show(e !=0)=aP from by simp[he]];rfl) (xS ?_);exact cT hb (.jf U U (.tmp U .nil)) ⟨U,U⟩):p:=h
theorem bj6(h:p:=by
 ·have hi:i=s.length:=bQ;subst hi;rw[bV];refine xS ?_;exact cT hb (.tmps U) ⟨by rw[cD];rfl,U⟩):p:=h
theorem bh1(h:p:=by
 exact⟨_,_,_,_,_,aL8 GG b2 [.slice a q.length c] ⟨_,U⟩,bS.es,.cell U U (.tmp U .nil),⟨U,U⟩,bS.nil _⟩):p:=h
theorem ba3(h:p:=by
 rw[h1,dK];congr 1;apply cY;intro x hx;simp only[Function.comp];unfold vp;rw[Ob h.nd hx];simp):p:=h
theorem bb5(h:p:=by
 refine xS ?_;exact X.W (rb ⟨(j+1,V),by dsimp only;omega,hVn,hVi,λx=>by dsimp only;rw[hV x,xy x]⟩ oQ)):p:=h
theorem bJ9(h:p:=by
 refine xS ?_;exact X.W (ih ⟨i+1,by omega⟩ oQ)):p:=h
theorem ab8(h:p:=by
 have:c=1\/c=2\/c=3:=bw;rcases this with rfl|rfl|rfl<;>decide):p:=h
theorem aT6(h:p:=by
 cases c with
 |none=>exact λa w he hs=>this a w (key _ U a he) hs
 |some c=>exact λa w he hs=>this a w (key _ U a he) hs):p:=h
theorem be0(h:p:=by
 exact X.less (ih ⟨(i+1,j+1,m.set i x),Ty h3⟩ bQ) (Qm U U (dI U dW) (dI U dW)) bA):p:=h
theorem bM0(h:p:=by
 exact(s8_ U U U U U U U (dI U nM))):p:=h
theorem bd7(h:p:=by
 ·dsimp only;rw[PI];exact(s8_ U U U U U U U (dI U nM))
 ·dsimp only;rw[PI];exact bA):p:=h
theorem Ua(h:p:=by
 rw[beq_eq_false_iff_ne];rintro rfl;grind [DQ]):p:=h
theorem ba9(h:p:=by
 rw[ao he]at cD;subst cD;refine xS ?_;exact cT hb (.tmp U (.jf U cE (.tmp U .nil))) ⟨U,U⟩):p:=h
theorem ap2(h:p:=by
 exact h0 153 XJ):p:=h
theorem ap3(h:p:=by
 exact h0 151 XJ):p:=h
theorem bi0(h:p:=by
 unfold cd.jg;split
 ·split
  ·exact h
  ·exact bW _ _
 ·split
  ·exact bW _ _
  ·exact h):p:=h
theorem bi5(h:p:=by
 rename_i h;split
 ·exact yo h
 ·split
  ·exact XJ
  grind [CZ]):p:=h
theorem ac2(h:p:=by
 refine xS ?_;exact go aP bQ U U U ax):p:=h
theorem bg8(h:p:=by
 exact fC hG hb (kH GG aQ) U U U (bS.refl _) (λ_ he=>⟨(),e,U,U⟩) (λx hx=>by cases hx)):p:=h
theorem bc6(h:p:=by
 rw[List.getElem?_append_right bw,h1,Nat.sub_self,List.getElem?_drop,Nat.add_zero,bX h]):p:=h
theorem aW3(h:p:=by
 have hE:cX xs at_=(.zero,0,40):=by grind [cX]
 refine xS ?_;exact M5 b4 40 hE U U U ax):p:=h
theorem an7(h:p:=by
 exact bW _ _):p:=h
theorem OS(h:p:=by
 cases hw:mn q nm<;>grind [Dm.ref]):p:=h
theorem be1(h:p:=by
 ·refine xS ?_;exact X.less (ih ⟨(i,j+1,m),hdr h3⟩ bQ) (Qm U U U (dI U dW)) bA):p:=h
theorem a88(h:p:=by
 refine xS ?_;exact X.ret hb (.tmps U) ⟨[bx W 177 (Wr.cs D {w with shut:=aP}),S'],⟨U,by simp⟩,bA⟩):p:=h
theorem bf3(h:p:=by
 ·rw[aj bw]at e0;subst e0;refine xS ?_;exact cT hb (.jf U U (.tmp U .nil)) ⟨U,U⟩):p:=h
theorem bi2(h:p:=by
 split
 ·rename_i f e hf
  have hg:=(nw hf).1
  have hl:=aN1 h hg
  have hle:=h.le
  grind [bi1]
 ·exact h):p:=h
theorem a48(h:p:=by
 rintro v B ⟨p,rfl,rfl⟩;refine xD ?_;refine rN U U U (xS ?_);exact cT hb (.tmps U) ⟨p,U,U⟩):p:=h
theorem bi3(h:p:=by
 split
 ·exact bz _
 ·split
  ·exact bz _
  ·exact CU (k:=0) (Nat.le_of_eq (Uk _ _ _))):p:=h
theorem bc4(h:p:=by
 ·rw[aj bw]at L0;rw[<-L0];refine xS ?_;exact X.W (rb ⟨t+1,by omega,by grind⟩ bQ)):p:=h
theorem Hm(h:p:=by
 refine xS ?_;exact X.W ih):p:=h
theorem bi4(h:p:=by
 rename_i h0;split at e
 ·cases e
 ·rename_i m' e'
  cases e
  have:=vW h l1 l2 e'
  grind [Sk]):p:=h
theorem Nc(h:p:=by
 refine xS ?_;exact no4 e0 U U):p:=h
theorem a83(h:p:=by
 ·rfl
 ·rfl
 refine xS ?_;exact X.ret hb (.tmps U) ⟨[bx b1 155 s.cs],⟨by grind [mv],U⟩,bA⟩):p:=h
theorem ba1(h:p:=by
 unfold pw at*;rw[ei,bK,bF,bN,fS];omega):p:=h
theorem TX(h:p:=by
 refine xS ?_;exact bad bw U U):p:=h
theorem ap9(h:p:=by
 cases he;(constructor<;>first|decide|(dsimp only;decide))):p:=h
theorem aT9(h:p:=by
 rintro v w' ⟨B,hB,Fi⟩;exact h v B hB hb _ _ (ik.put (E:=⟨N,vs,ds⟩) he hn v) (sT B w' Fi)):p:=h
theorem bN4(h:p:=by
 exact X.W (ih ⟨(i+1,pre,d2),by omega,hw⟩ bQ)):p:=h
theorem Zx(h:p:=by
 rw[<-vC];exact FT (by rw[vC];exact eI.nd)):p:=h
theorem bh5(h:p:=by
 rw[hn];rintro _ _ ⟨rfl,rfl⟩;refine xD ?_;refine xJ (nS 70 bw bw) ?_;exact xR):p:=h
theorem a99(h:p:=by
 refine xS ?_;refine rN U U U (xS ?_);exact X4 hb U U (λ_=>rfl) ⟨_,U,U,U⟩):p:=h
theorem aS8(h:p:=by
 intro n z hn;unfold Hp.one at hn;split at hn
 ·rename_i e;cases hn;rw[e];exact hf.o _ _ hob
 ·cases hn):p:=h
theorem ba4(h:p:=by
 rw[ao h1]at e0;subst e0;refine xS ?_;exact cT hb (.jf U U (.tmp U .nil)) ⟨U,U⟩):p:=h
theorem aX7(h:p:=by
 have h1:1<=s.length:=bQ;refine xS ?_;exact cT hb (.tmps U) ⟨by grind [mv,eO],U⟩):p:=h
theorem a81(h:p:=by
 have h2:q.1.length<=2048:=bQ;refine xS ?_;exact cT hb (.tmps U) ⟨by grind [mv],U⟩):p:=h
theorem aY7(h:p:=by
 refine xS ?_;exact X.ret hb (.tmps U) ⟨_,⟨by rw[e0];rfl,by rw[e0]⟩,close ax⟩):p:=h
theorem aY1(h:p:=by
 refine xS ?_;exact X.ret hb (.tmps U) ⟨[bx D 74 [_,_,_,_,_,_,_,_],S],⟨U,U⟩,bA⟩):p:=h
theorem aZ7(h:p:=by
 ·refine xA ?_;intro t7;refine xE BR ?_;refine xL [6,7] ?_;refine xS ?_;exact X.W (fin t7)):p:=h
theorem a73(h:p:=by
 ·refine xA ?_;intro b7;refine X9 U U U U hj1 hj2 hj3 (xS ?_);exact X.W (dF b7)):p:=h
theorem bg6(h:p:=by
 rw[aj N0]at hq;refine xS ?_;exact cT hb (.tmps U) ⟨by rw[<-hq];rfl,U⟩):p:=h
theorem bg3(h:p:=by
 rw[bne_iff_ne];intro h;have e1:(37:au).toNat=37:=U;exact hC (UInt8.toNat_inj.1 bw)):p:=h
theorem aX1(h:p:=by
 refine xS ?_;exact X.ret hb (.tmps U) ⟨_,.inr ⟨by grind,by rw[e0];rfl,U⟩,bS.nil _⟩):p:=h
theorem aY6(h:p:=by
 refine je (ew ?_) F;rw[dx];exact(List.perm_append_singleton _ _).symm):p:=h
theorem a43(h:p:=by
 refine xS ?_;refine rN U U U (xS ?_);exact err 0 2 (by rw[e0,hE]) (.inr U) U U):p:=h
theorem bh3(h:p:=by
 have h4:=eB 700000000 vF;simp only[bL,dU];omega):p:=h
theorem Y9(h:p:=by
 refine xS ?_;exact out 46 (by grind [dD]) U):p:=h
theorem aV6(h:p:=by
 have hE:rh xs count=(0,20):=by grind [rh]
 refine xS ?_;refine early 0 20 hE ?_ ?_<;>rfl):p:=h
theorem bf1(h:p:=by
 split
 ·exact bz _
 ·exact OF _ _ _ _ (by grind [aj0]) (bz _)):p:=h
theorem bQ9(h:p:=by
 rw[Tryz.underlying27]at hu;cases hu):p:=h
theorem be9(h:p:=by
 rw[cg,eX,bX hi,List.foldl_append];rfl):p:=h
theorem aW5(h:p:=by
 refine xS ?_;exact X.less (y7 ()) (Qm U U U (dI U fD)) bA):p:=h
theorem bi7(h:p:=by
 exact⟨(mL.refl h).mono bw,by constructor<;>first|decide|(dsimp only;decide)⟩):p:=h
theorem aZ8(h:p:=by
 rw[aj bQ]at hE;refine xS ?_;refine X.W (ih ⟨i+1,by omega,hE⟩ bQ)):p:=h
theorem aZ9(h:p:=by
 refine xS ?_;exact X.ret nA (.tmps U) ⟨[],by rw[e0];exact⟨U,U⟩,bS.nil _⟩):p:=h
theorem aY8(h:p:=by
 exact(gm _).trans ((bS.drop _ _).trans ((bS.drop _ _).trans (ko kl [])))):p:=h
theorem aW4(h:p:=by
 rw[ao bQ]at hE;refine xS ?_;exact M5 b4 45 hE U U U ax):p:=h
theorem Zo(h:p:=by
 ·refine xS ?_;exact out aQ bQ U):p:=h
theorem YN(h:p:=by
 simp[jm,jX,iM]):p:=h
theorem bb0(h:p:=by
 intro t kk v ht;rw[show(9999:ab)=9998+1 from rfl,iI];simp[cI ht]):p:=h
theorem bj5(h:p:=by
 rw[ao U]at cD;subst cD;refine bD 11 aP U cE  ?_;exact xR):p:=h
theorem aY0(h:p:=by
 rw[ao bQ]at e0;refine xS ?_;exact out aO 70 e0 U U ax):p:=h
theorem aX2(h:p:=by
 exact X.ret hb (.tmps U) ⟨_,.inr ⟨by grind,by rw[e1];rfl,U⟩,bS.nil _⟩):p:=h
theorem bK4(h:p:=by
 exact X.W (rb ⟨j+1,by omega⟩ bQ)):p:=h
theorem bc1(h:p:=by
 ·rfl
 ·rfl
 refine xS ?_;exact cT hb (.tmps U) ⟨by simp[mv,vt,h],U⟩):p:=h
theorem bg2(h:p:=by
 rw[ao U]at cD;subst cD;refine bD 9 aP U cE  ?_;exact xR):p:=h
theorem bf8(h:p:=by
 refine xS ?_;exact X.W (ih ⟨(i+1,(a5,c5),w),by omega,by grind,hw⟩ bQ)):p:=h
theorem bi8(h:p:=by
 exact⟨h1.1.mono bw,λe he=>by grind [ap1],λz hz=>by cases hz⟩):p:=h
theorem ZY(h:p:=by
 rintro v B ⟨x,hr,hq⟩;exact h x hr v B hq):p:=h
theorem aU9(h:p:=by
 rcases eR h1 with⟨_,h2,_,h4,_⟩|⟨_,_,_,h3,_⟩;all_goals simp_all):p:=h
theorem aU3(h:p:=by
 simp[Builtin.delete_,hts,cI ht.out,getObj,gz,hb,hk.check,hf,setObj]):p:=h
theorem bf0(h:p:=by
 rw[<-xz];refine xS ?_;exact X.W (ih ⟨i+1,by omega⟩ oQ)):p:=h
theorem Tu(h:p:=by
 cases p
 ·rfl
 ·exact ao h1):p:=h
theorem aZ0(h:p:=by
 rw[ir];exact eI.set vC.symm _ fD bw fD):p:=h
theorem aq9(h:p:=by
 exact⟨a.mono (bW _ _),b⟩):p:=h
theorem bd6(h:p:=by
 exact cT hb (.jf U cE (.tmp U (.tmp U .nil))) ⟨U,U⟩):p:=h
theorem bj0(h:p:=by
 have h1:=Uh h.ok;have h2:=h.P;have h3:=h.ok.le;have h4:=h.ok.cap;omega):p:=h
theorem aU8(h:p:=by
 exact(fM _ _ _).trans (iJ _ (fM _ _ _))):p:=h
theorem YK(h:p:=by
 rw[bv8,bv8,wrap_u8 _ (BitVec.isLt _)];rfl):p:=h
theorem a16(h:p:=by
 refine eA (j:=k) U U U U bw bw (xS ?_);exact hp):p:=h
theorem bf4(h:p:=by
 exact X.W (ih ⟨(i+1,s1),by dsimp only;omega,hS⟩ oQ)):p:=h
theorem bk5(h:p:=by
 exact X.less (dF ⟨(y,A),hy,qN⟩) (Sub.cons U (Sub.nil _)) bA):p:=h
theorem bJ8(h:p:=by
 ·exact h.jg (Jl h.files _ _) _):p:=h
theorem bd5(h:p:=by
 split at e
 ·cases e
 ·rename_i m1 h1;cases e;exact uz hI h h1):p:=h
theorem bc8(h:p:=by
 rw[cK.1 hx];exact⟨⟨h1,h2,l6 r' pg⟩,vo r' pg⟩):p:=h
theorem a94(h:p:=by
 refine xS ?_;exact X.ret hb (.tmps U) ⟨_,cD _ dW,bA⟩):p:=h
theorem bi9(h:p:=by
 exact⟨mL.refl h,by constructor<;>first|decide|(dsimp only;decide)⟩):p:=h
theorem aV3(h:p:=by
 exact z7 hb (.tmps U) ⟨_,⟨ys,AD,a6,c6,U,U⟩,bA⟩):p:=h
theorem Yz(h:p:=by
 show w'.heap[n]?=aN z;rw[h4];exact h3):p:=h
theorem a00(h:p:=by
 refine xS ?_;exact cT hb (.tmps U) ⟨by simp[mv,r7,h],U⟩):p:=h
theorem ZZ(h:p:=by
 exact cT hb (.tmps U) ⟨U,U⟩):p:=h
theorem bg1(h:p:=by
 refine xS ?_;exact X.W (ih ⟨(i+1,pre,d2),by omega,hw⟩ bQ)):p:=h
theorem a07(h:p:=by
 rw[show(c.toNat:ae).toNat.toUInt8=c from by simp]at this;exact this):p:=h
theorem aW6(h:p:=by
 refine xS ?_;exact cT hb (.tmps U) ⟨by rw[hE];rfl,by rw[hE]⟩):p:=h
theorem aT0(h:p:=by
 intro r' pg;exact pg _ _ (ig _ _ _ _ (by simp[Hp.one]))):p:=h
theorem bg0(h:p:=by
 subst hf;refine xS ?_;exact X.W (dF ⟨.nilIface,.inr trivial⟩)):p:=h
theorem a03(h:p:=by
 have:=(cA.1 hi).2.1;simpa using this):p:=h
theorem aU1(h:p:=by
 cases e:q b' with
 |none=>rfl
 |some z=>have:=Mt (hq _ _ e);omega):p:=h
theorem ba5(h:p:=by
 refine xS ?_;exact X.fin hb (.tmps U) ⟨_,.inl U,bA⟩):p:=h
theorem be4(h:p:=by
 refine xS ?_;refine bm1 U U U U U (xS ?_);exact hp):p:=h
theorem be8(h:p:=by
 exact⟨by simp;omega,bo h.names bw,h.name⟩):p:=h
theorem a86(h:p:=by
 rw[bL];omega):p:=h
theorem bd2(h:p:=by
 rename_i h2;cases h1;exact⟨JD h h2,On _ _⟩):p:=h
theorem bd9(h:p:=by
 have hf:xs.filter (λx=> !p x)=xs:=by
  grind
 rw[hf];exact xR):p:=h
theorem aW2(h:p:=by
 exact cT hb (.tmp h1 (.tmp h2 .nil)) ⟨by rw[he];rfl,U⟩):p:=h
theorem aY9(h:p:=by
 ·rintro v B ⟨rfl,rfl⟩;rw[<-e0];refine xD ?_;exact xR):p:=h
theorem bj2(h:p:=by
 rw[bK];have:([61,32]:Bs).length=2:=U;omega):p:=h
theorem be6(h:p:=by
 refine bD 27 aP U fD (xS ?_);exact hp):p:=h
theorem ba7(h:p:=by
 exact z7 hb (.tmps U) ⟨_,⟨K,U,U⟩,bA⟩):p:=h
theorem bb1(h:p:=by
 cases ks with
 |nil=>simp[Instr.findNow]
 |cons _ _=>simp at h):p:=h
theorem bg4(h:p:=by
 refine xS ?_;refine mO U U U U U  ?_;exact xR):p:=h
theorem a71(h:p:=by
 exact⟨y,h5,y.1.data.length,U,by rw[bV]⟩):p:=h
theorem aT1(h:p:=by
 exact⟨e,wa,fr,r,.of_steps (StepsIn.steps ax2) c,rest⟩):p:=h
theorem aX8(h:p:=by
 exact cT hb (.tmps U) ⟨by rw[<-bU2 _ h1];rfl,U⟩):p:=h
theorem a06(h:p:=by
 exact X.fin hb (.tmps U) ⟨_,⟨U,U⟩,bS.refl _⟩):p:=h
theorem aT5(h:p:=by
 cases e;have h1:=tQ h (uC▸hx);simp[aU,h1,pure]):p:=h
theorem a89(h:p:=by
 ·split
  ·grind
  ·exact h.jg (Jl h.files _ _) _):p:=h
theorem aX9(h:p:=by
 rw[e];cases List.find? (λx=>decide (x.1=name)) fs<;>rfl):p:=h
theorem a38(h:p:=by
 refine xS ?_;exact cT hb (.tmps U) ⟨a3,c3,U,U⟩):p:=h
theorem ba6(h:p:=by
 refine xS ?_;exact X.W (rb ⟨j+1,by omega⟩ bQ)):p:=h
theorem aT2(h:p:=by
 exact⟨e,wa,fr,r,.of_steps (StepsIn.steps hs) c,rest⟩):p:=h
theorem bj4(h:p:=by
 obtain⟨y,_,h2⟩:=List.mem_flatMap.1 hx;exact h y x h2):p:=h
theorem bf6(h:p:=by
 rintro v B ⟨rfl,rfl⟩;refine xD ?_;exact lT mM):p:=h
theorem bk0(h:p:=by
 refine bD 180 aP U U (xS ?_);exact X.W dF):p:=h
theorem ad4(h:p:=by
 cases e;exact h.mono bw):p:=h
theorem bb9(h:p:=by
 have:=qb.length_eq;rw[hkm]at this;simp at this;omega):p:=h
theorem a09(h:p:=by
 exact(Cp m f _ _ _).trans (wC _ _ _ _ _)):p:=h
theorem bh2(h:p:=by
 simp only[bL,bK];omega):p:=h
theorem bc7(h:p:=by
 rw[hbs];exact X.W (ih ⟨i+1,by omega⟩ bQ)):p:=h
theorem a62(h:p:=by
 exact cT hb (.tmps U) ⟨by rw[<-hE];rfl,U⟩):p:=h
theorem a'1(h:p:=by
 show(ga b at_).2.1+(ga b at_).2.2<=_;omega):p:=h
theorem aS9(h:p:=by
 exact iQ (kN h2b) (hf.ro.mono (.refl _) h2)):p:=h
theorem JH(h:p:=by
 refine xS ?_;exact X.W (dF ())):p:=h
theorem Jz(h:p:=by
 refine xS ?_;exact qb):p:=h
theorem bh4(h:p:=by
 refine eA (j:=0) U U U U U bw (xS ?_);exact hp):p:=h
theorem bw(h:p:=by omega):p:=h
theorem bQ(h:p:=by grind):p:=h
theorem fD(h:p:=by simp;omega):p:=h
theorem eK(h:p:=by decide):p:=h
theorem cE(h:p:=by rfl):p:=h
theorem iB(h:p:=by kernel_rfl):p:=h
theorem dW(h:p:=by simp):p:=h
theorem oQ(h:p:=by dsimp only;omega):p:=h
theorem XJ(h:p:=by constructor<;>first|decide|(dsimp only;decide)):p:=h
theorem bz9(h:p:=by unfold wy labOnwardRow;repeat(first|exact List.mem_cons_self|apply List.mem_cons_of_mem)):p:=h
theorem sH(h:p:=by simp at h;omega):p:=h
theorem nM(h:p:=by simp[bR]):p:=h
theorem rC(h:p:=by rw[qL];rfl):p:=h
theorem yz(h:p:=by simpa using h1):p:=h
theorem Wa(h:p:=by rw[bF,dG];omega):p:=h
theorem FL(h:p:=by first|rfl|assumption):p:=h
theorem LC(h:p:=by grind [l9.do,l9.pT]):p:=h
theorem Au(h:p:=by simpa using h):p:=h
theorem Cc(h:p:=by simpa using h2):p:=h
theorem QY(h:p:=by grind [cg]):p:=h
theorem Ir(h:p:=by simp at h5;omega):p:=h
theorem vE(h:p:=by cases hx):p:=h
theorem bp5(h:p:=by rw[cB];exact hA1.out.trans (nI A hA2.out)):p:=h
theorem aK8(h:p:=by grind [dO]):p:=h
theorem vO(h:p:=by rw[qL]):p:=h
theorem K5(h:p:=by simpa using hi):p:=h
theorem br2(h:p:=by apply Array.toList_inj.1;rw[Array.toList_map];exact h1):p:=h
theorem M8(h:p:=by simpa using h3):p:=h
theorem Ca(h:p:=by simp_all):p:=h
theorem RM(h:p:=by simp at h1;omega):p:=h
theorem Rn(h:p:=by grind [cd.step]):p:=h
theorem aG4(h:p:=by grind [mZ,kX,ac0]):p:=h
theorem D9(h:p:=by simp[hy]):p:=h
theorem YA(h:p:=by grind [ByteArray.size]):p:=h
theorem aK9(h:p:=by have:d16.length=16:=rfl;omega):p:=h
theorem NG(h:p:=by simp[cq]):p:=h
theorem QO(h:p:=by simpa using he):p:=h
theorem aO7(h:p:=by have:=ha.1 k (by simp);omega):p:=h
theorem Yy(h:p:=by rw[nA.fn];exact h1):p:=h
theorem Xt(h:p:=by grind [Dm.ref]):p:=h
theorem bt9(h:p:=by rintro v B ⟨_,rfl⟩;infer_instance):p:=h
theorem bs5(h:p:=by grind [jm,iM]):p:=h
theorem Xg(h:p:=by decide+kernel):p:=h
theorem bq3(h:p:=by rw[<-tX,kl];exact eI.nd):p:=h
theorem bs9(h:p:=by rw[ht.files.length_eq];exact hl):p:=h
theorem br3(h:p:=by grind [bI]):p:=h
theorem bE4(h:p:=by rw[bK,e1,hl,ic];exact bz _):p:=h
theorem bt1(h:p:=by rw[hxq,List.set_getElem_self]):p:=h
theorem aB2(h:p:=by show s.used<=_;omega):p:=h
theorem N0(h:p:=by simp[hx]):p:=h
theorem MZ(h:p:=by simp[h2]):p:=h
theorem ZC(h:p:=by simpa using h4):p:=h
theorem ad8(h:p:=by simp[Act.eval]):p:=h
theorem R9(h:p:=by simp[hqe]):p:=h
theorem aH2(h:p:=by grind [kC]):p:=h
theorem bH0(h:p:=by rcases I9 hs hf.out with⟨_,h3,h4⟩|⟨_,_,h3⟩<;>omega):p:=h
theorem bN0(h:p:=by have:=hMF.steps;rw[<-hp,bF]at this;omega):p:=h
theorem bR2(h:p:=by rw[vo];rw[EB lt jT mX,ab1];simpa using h5):p:=h
theorem bJ7(h:p:=by rw[<-NS];exact(Ji hp eI.nd _).symm):p:=h
theorem bI2(h:p:=by have:=aH eP h1;simpa using this):p:=h
theorem bO0(h:p:=by grind [py,dO]):p:=h
theorem bI9(h:p:=by rw[vo];rw[EB lt jT mX,ab1];exact h5):p:=h
theorem UU(h:p:=by simp[hn]):p:=h
theorem UQ(h:p:=by simp[hl]):p:=h
theorem Ws(h:p:=by simp[he]):p:=h
theorem V3(h:p:=by simp[h0]):p:=h
theorem bp0(h:p:=by simp[ByteArray.size]):p:=h
theorem aR2(h:p:=by simpa using e):p:=h
theorem az4(h:p:=by grind [wj]):p:=h
theorem bL3(h:p:=by rw[List.length_eraseIdx_of_lt hi];omega):p:=h
theorem bK2(h:p:=by rintro v B ⟨a,c,rfl,rfl⟩;infer_instance):p:=h
theorem bD8(h:p:=by rcases hf.ro b with h|h;all_goals grind):p:=h
theorem bD9(h:p:=by rcases hf.of b with h|h;all_goals grind):p:=h
theorem bq4(h:p:=by show _<=s.used;omega):p:=h
theorem bp1(h:p:=by have:=Xw.out;grind):p:=h
theorem bG7(h:p:=by grind [rX,j',fV]):p:=h
theorem bL1(h:p:=by rw[<-Ji hp eI.nd,NS,XG]):p:=h
theorem bK3(h:p:=by rw[<-Gz,dV]):p:=h
theorem bL6(h:p:=by rw[kf,bF];omega):p:=h
theorem bN8(h:p:=by cases w with|nil=>grind|cons _ _=>rfl):p:=h
theorem bE0(h:p:=by rcases hd b with h|h;all_goals grind):p:=h
theorem WA(h:p:=by rw[jT]):p:=h
theorem bH2(h:p:=by have:=aH eP hq;grind):p:=h
theorem bE5(h:p:=by have:=aH eP h1;grind):p:=h
theorem bq2(h:p:=by grind [tX]):p:=h
theorem bp3(h:p:=by grind [beq_false]):p:=h
end
namespace Go.Sl
section
variable(P:aT)(w:aV)
theorem P9(w':aV)(at_:aX)(u:TypeId)(k:aX)(v:aR)(atomic:ai)(l:Y aX)(h:w.viewStore P at_ u k v atomic=.ok (w',l)):w.drawn<=w'.drawn:=by
 unfold World.viewStore at h;simp only[bind,Except.bind,pure,Except.pure,throw,throwThe,MonadExceptOf.throw]at h;by_cases ht:(!tight P P.depth u)=aP
 ·simp only[ht,if_true]at h;cases h
 ·simp only[ht,aI,di]at h;cases hs:w.seen P at_ u k atomic with
  |error e=>grind
  |ok x=>
   rw[hs]at h;obtain⟨c,e,fr,first,like,cells⟩:=x;dsimp only at h;cases hb:v.bytes? with
   |none=>simp_all
   |some bytes=>
    grind
def Result.world{α:Type}:Result α->aV
 |.ok _ w=>w
 |.halt _ w=>w
theorem UK(w':aV)(a:aX)(v:aR)(b:ai)(l:Y aX)(h:w.farStore P a v b=.ok (w',l)):w.drawn<=w'.drawn:=by
 unfold World.farStore at h;split at h
 ·split at h
  ·rename_i r hr;obtain⟨w2,l2⟩:=r;simp only[Except.ok.injEq,Prod.mk.injEq]at h;obtain⟨rfl,rfl⟩:=h;exact P9 _ _ _ _ _ _ _ _ _ hr
  ·cases h
 ·cases h
theorem B4{α:Type}:∀(a:Ask α) (w:aV),w.drawn<=(w.ask a).2.drawn
 |.done _,w=>bz _
 |.ask what range k,w=>by
  simp only[World.ask];split
  ·exact B4 (k 0) w
  ·exact bo (iz _) (B4 (k _) {w with drawn:=w.drawn+1})
theorem UL(c:Sys):w.drawn<=(w.sys c).2.drawn:=by
 grind [B4,World.sys]
theorem jt{α:Type}(P:aT):∀(s:Sem α) (w:aV),w.drawn<=(Result.world (s.run P w)).drawn
 |.pure _,w=>bz _
 |.load m a k,w=>by
  rw[gz];split
  ·exact jt P (k _) w
  ·split
   ·exact jt P (k _) w
   ·exact bz _
 |.store m a v k,w=>by
  have h1:∀w2:aV,w2.drawn=w.drawn->w.drawn<=(Result.world (k.run P w2)).drawn:=λw2 h=>h▸jt P k w2;have h2:∀w2:aV,w.drawn<=w2.drawn->w.drawn<=(Result.world (k.run P w2)).drawn:=λw2 h=>bo h (jt P k w2);by_cases hv:(∃l,v=.agg l)\/∃l,v=.tuple l
  ·rcases hv with⟨l,rfl⟩|⟨l,rfl⟩<;>(rw[gz];exact bz _)
  ·rw[gz]
   ·split
    ·split
     ·exact bz _
     ·exact h1 _ U
    ·split
     ·grind [UK]
     ·exact bz _
   all_goals grind
 |.new o k,w=>by rw[gz];exact jt P (k _) {w with heap:=w.heap.push o}
 |.shape r k,w=>by rw[gz];exact jt P (k _) w
 |.freeze a n k,w=>by
  rw[gz];refine bo ?_ (jt P k _);unfold World.freeze;split<;>exact bz _
 |.frozen a k,w=>by rw[gz];exact jt P (k _) w
 |.getObj r k,w=>by
  rw[gz];split
  ·exact bz _
  ·exact jt P (k _) w
  ·exact bz _
 |.setObj r o k,w=>by
  rw[gz];split
  ·exact bz _
  ·exact jt P k {w with heap:=w.heap.setIfInBounds r o}
  ·exact bz _
 |.choose q k,w=>by
  rw[gz];split
  ·exact jt P (k 0) w
  ·exact bo (iz _) (jt P (k _) {w with drawn:=w.drawn+1})
 |.sys c k,w=>by
  rw[gz];exact bo (UL w c) (jt P (k _) _)
 |.program k,w=>by rw[gz];exact jt P (k P) w
 |.mark _ k,w=>by rw[gz];exact jt P k w
 |.halt h,w=>bz _
theorem Yu{α:Type}{P:aT}{s:Sem α}{w w':aV}{a:α}(h:s.run P w=.ok a w'):w.drawn<=w'.drawn:=by
 have:=jt P s w;rw[h]at this;exact this
end
section
variable{w:aV}{x:Obj}{b:ab}{q:ai}
abbrev Hp:=ab->ah Obj
def Hp.le(a b:Hp):Prop:=∀n o,a n=aN o->b n=aN o
def mP(a b:Hp):Prop:=∀n,a n=aO\/b n=aO
def mb(a b:Hp):Hp:=λn=>match a n with|some o=>aN o|none=>b n
def gI:Hp:=λ_=>aO
def Hp.one(k:ab)(o:Obj):Hp:=λn=>if n=k then aN o else aO
def hp(w:aV):Hp:=λn=>w.heap[n]?
theorem Hp.le.refl(a:Hp):Hp.le a a:=λ_ _ h=>h
theorem Hp.le.trans{a b c:Hp}(h:Hp.le a b)(k:Hp.le b c):Hp.le a c:=λn o e=>k n o (h n o e)
theorem dQ(a:Hp):Hp.le gI a:=λ_ _ h=>by cases h
theorem ef(a:Hp):mP gI a:=λ_=>.inl U
theorem mP.symm{a b:Hp}(h:mP a b):mP b a:=λn=>(h n).symm
theorem mP.mono{a b a' b':Hp}(h:mP a b)(ha:Hp.le a' a)(hb:Hp.le b' b):mP a' b':=by
 intro n;rcases h n with h|h
 ·left;cases e:a' n with
  |none=>rfl
  |some o=>rw[ha n o e]at h;cases h
 ·right;cases e:b' n with
  |none=>rfl
  |some o=>rw[hb n o e]at h;cases h
theorem ig(a b:Hp):Hp.le a (mb a b):=λn o h=>by simp[mb,h]
theorem gu{a b:Hp}(hd:mP a b):Hp.le b (mb a b):=λn o h=>by
 rcases hd n with h'|h';all_goals grind [mb]
theorem ma{a b c:Hp}(h:Hp.le a c)(k:Hp.le b c):Hp.le (mb a b) c:=λn o e=>by
 unfold mb at e;split at e
 ·rename_i x hx;cases e;exact h n _ hx
 ·exact k n o e
theorem iQ{a b c:Hp}(h:mP a c)(k:mP b c):mP (mb a b) c:=by
 intro n
 rcases h n with h|h
 ·rcases k n with k|k;all_goals grind [mb]
 grind
structure bG where
 h:Hp->Hp->Prop
 mono:∀{r r' o o'},Hp.le r r'->Hp.le o o'->h r o->h r' o'
def pq:Y bG->Hp->Hp->Prop
 |[],_,_=>True
 |p::ps,r,o=>∃o1 o2,mP o1 o2/\Hp.le o1 o/\Hp.le o2 o/\p.h r o1/\pq ps r o2
theorem kx:∀(l:Y bG) {r r' o o'},Hp.le r r'->Hp.le o o'->pq l r o->pq l r' o'
 |[],_,_,_,_,_,_,_=>trivial
 |p::ps,_,_,_,_,hr,ho,⟨o1,o2,hd,h1,h2,hp,hs⟩=>
  ⟨o1,o2,hd,h1.trans ho,h2.trans ho,p.mono hr (.refl _) hp,kx ps hr (.refl _) hs⟩
def bS(H Hs':Y bG):Prop:=∀r o,pq H r o->pq Hs' r o
theorem bS.refl(H:Y bG):bS H H:=λ_ _ h=>h
theorem bS.trans{a b c:Y bG}(h:bS a b)(k:bS b c):bS a c:=λr o e=>k r o (h r o e)
theorem bS.cons{a b:Y bG}(p:bG)(h:bS a b):bS (p::a) (p::b):=
 λ_ _ ⟨o1,o2,hd,h1,h2,hp,hs⟩=>⟨o1,o2,hd,h1,h2,hp,h _ _ hs⟩
theorem eo(p q:bG)(a:Y bG):bS (p::q::a) (q::p::a):=by
 rintro r o ⟨o1,o2,hd,h1,h2,hp,o3,o4,hd',h3,h4,hq,hs⟩;refine⟨o3,mb o1 o4,?_,h3.trans h2,ma h1 (h4.trans h2),hq,o1,o4,hd.mono (.refl _) h4,ig _ _,?_,hp,hs⟩
 ·exact(iQ (hd.mono (.refl _) h3) hd'.symm).symm
 ·exact gu (hd.mono (.refl _) h4)
theorem bS.drop(p:bG)(a:Y bG):bS (p::a) a:=
 λ_ _ ⟨_,_,_,_,h2,_,hs⟩=>kx a (.refl _) h2 hs
theorem kQ{a b:Y bG}{r o:Hp}:pq (a++b) r o↔∃o1 o2,mP o1 o2/\Hp.le o1 o/\Hp.le o2 o/\pq a r o1/\pq b r o2:=by
 induction a generalizing o with
 |nil=>
  constructor
  ·intro h;exact⟨gI,o,ef _,dQ _,.refl _,trivial,h⟩
  ·rintro⟨o1,o2,_,_,h2,_,h⟩;exact kx b (.refl _) h2 h
 |cons p ps ih=>
  constructor
  ·rintro⟨o1,o2,hd,h1,h2,hp,hs⟩;obtain⟨o3,o4,hd',h3,h4,hs3,hs4⟩:=ih.1 hs;refine⟨mb o1 o3,o4,iQ (hd.mono (.refl _) h4) hd',ma h1 (h3.trans h2),h4.trans h2,⟨o1,o3,hd.mono (.refl _) h3,ig _ _,?_,hp,hs3⟩,hs4⟩;exact gu (hd.mono (.refl _) h3)
  ·rintro⟨o1,o2,hd,h1,h2,⟨o3,o4,hd',h3,h4,hp,hs3⟩,hs4⟩;refine⟨o3,mb o4 o2,?_,h3.trans h1,ma (h4.trans h1) h2,hp,?_⟩
   ·exact(iQ hd'.symm (hd.mono h3 (.refl _)).symm).symm
   ·exact ih.2 ⟨o4,o2,hd.mono h4 (.refl _),ig _ _,gu (hd.mono h4 (.refl _)),hs3,hs4⟩
def pt(b:ab)(x:Obj):bG:=⟨λ_ o=>o b=aN x,λ_ ho h=>ho _ _ h⟩
def ro(p:Hp->Prop):bG:=⟨λr _=>∀r',Hp.le r r'->p r',λhr _ h r' pg=>h r' (hr.trans pg)⟩
structure Fits(w:aV)(r₁ o₁ f₁:Hp):Prop where
 r:Hp.le r₁ (hp w)
 o:Hp.le o₁ (hp w)
 f:Hp.le f₁ (hp w)
 ro:mP r₁ o₁
 rf:mP r₁ f₁
 of:mP o₁ f₁
structure de where
 w:aV
 r:Hp
 f:Hp
 q:ai
def de.le(O β':de):Prop:=Hp.le O.r β'.r/\β'.q=O.q
def yZ(q:ai)(w w':aV):Prop:=w'.os=w.os/\w'.tape=w.tape/\w'.output=w.output/\w.heap.size<=w'.heap.size/\(q=aP->w.drawn<=w'.drawn)
theorem yZ.refl(w:aV):yZ q w w:=⟨U,U,U,bz _,λ_=>bz _⟩
theorem yZ.trans{a b c:aV}(h:yZ q a b)(k:yZ q b c):yZ q a c:=⟨k.1.trans h.1,k.2.1.trans h.2.1,k.2.2.1.trans h.2.2.1,bo h.2.2.2.1 k.2.2.2.1,λhq=>bo (h.2.2.2.2 hq) (k.2.2.2.2 hq)⟩
theorem yZ.of{a b:aV}(h:yZ aP a b):yZ q a b:=⟨h.1,h.2.1,h.2.2.1,h.2.2.2.1,λ_=>h.2.2.2.2 U⟩
def Sat(O:de)(H:Y bG)(w:aV):Prop:=
 ∃r o,Hp.le O.r r/\Fits w r o O.f/\pq H r o/\yZ O.q O.w w
theorem Sat.dE{O:de}{H Hs':Y bG}(h:Sat O H w)(k:bS H Hs'):Sat O Hs' w:=
 let⟨r,o,h1,h2,h3,h4⟩:=h;⟨r,o,h1,h2,k r o h3,h4⟩
theorem Mt(h:hp w b=aN x):b<w.heap.size:=
 (fB.1 h).1
theorem fF{O:de}{H:Y bG}(h:Sat O (pt b x::H) w):w.heap[b]?=aN x:=by
 obtain⟨r,o,_,hf,⟨o1,o2,_,h1,_,hp,_⟩,_⟩:=h;exact hf.o _ _ (h1 _ _ hp)
theorem Sat.ro{O:de}{H:Y bG}{p:Hp->Prop}(h:Sat O (ro p::H) w):p (hp w):=by
 obtain⟨r,o,_,hf,⟨o1,o2,_,h1,_,hp,_⟩,_⟩:=h;exact hp _ hf.r
theorem Sat.heap{O:de}{H:Y bG}{w':aV}(h:Sat O H w)(e:w'.heap=w.heap)(h1:w'.os=w.os)(h2:w'.tape=w.tape)(h3:w'.output=w.output)(h4:w.drawn<=w'.drawn):Sat O H w':=by
 obtain⟨r,o,h0,hf,hs,qK⟩:=h;have eh:hp w'=hp w:=by grind [hp]
 refine⟨r,o,h0,⟨eh▸hf.r,eh▸hf.o,eh▸hf.f,hf.ro,hf.rf,hf.of⟩,hs,qK.trans ⟨h1,h2,h3,by grind,λ_=>h4⟩⟩
theorem Sat.alloc{O:de}{H:Y bG}(h:Sat O H w)(x:Obj):
 Sat O (Sl.pt w.heap.size x::H) {w with heap:=w.heap.push x}:=by
 obtain⟨r,o,h0,hf,hs,qK⟩:=h
 have hle:Hp.le (hp w) (hp {w with heap:=w.heap.push x}):=by
  intro n y hn
  grind [hp]
 have vl:∀{q:Hp},Hp.le q (hp w)->q w.heap.size=aO:=by
  intro q hq;cases e:q w.heap.size with
  |none=>rfl
  |some y=>have:=Mt (hq _ _ e);omega
 have hdj:∀{q:Hp},Hp.le q (hp w)->mP (Hp.one w.heap.size x) q:=by
  intro q hq n
  grind [Hp.one]
 have kN:Hp.le (Hp.one w.heap.size x) (hp {w with heap:=w.heap.push x}):=by
  intro n y hn
  grind [Hp.one,hp]
 refine⟨r,mb (Hp.one w.heap.size x) o,h0,⟨hf.r.trans hle,ma kN (hf.o.trans hle),hf.f.trans hle,?_,hf.rf,?_⟩,?_,?_⟩
 ·exact(iQ (hdj hf.r) hf.ro.symm).symm
 ·exact iQ (hdj hf.f) hf.of
 ·exact⟨Hp.one w.heap.size x,o,hdj hf.o,ig _ _,gu (hdj hf.o),by show Hp.one _ _ _=_;simp[Hp.one],hs⟩
 ·exact qK.trans ⟨U,U,U,by simp,λ_=>bz _⟩
theorem Sat.put{O:de}{H:Y bG}{w':aV}{y:Obj}(h:Sat O (Sl.pt b x::H) w)(hs:yZ aP w w')(hb:w'.heap[b]?=aN y)(ho:∀n,n≠b->w.heap[n]?.isSome->w'.heap[n]?=w.heap[n]?):Sat O (Sl.pt b y::H) w':=by
 obtain⟨r,o,h0,hf,⟨o1,o2,hd,h1,h2,l6,ir⟩,qK⟩:=h
 have P':o1 b=aN x:=l6
 have hob:o b=aN x:=h1 _ _ P'
 have hle:∀{q:Hp},Hp.le q (hp w)->q b=aO->Hp.le q (hp w'):=by
  intro q hq hqb n z hn
  by_cases e:n=b
  ·grind
  ·have:=hq _ _ hn
   grind [hp]
 have kN:∀{q:Hp},q b=aO->mP (Hp.one b y) q:=by
  intro q hq n
  grind [Hp.one]
 have Mu:Hp.le (Hp.one b y) (hp w'):=Yv
 have hr:r b=aO:=by rcases hf.ro b with h|h;all_goals grind
 have S7:O.f b=aO:=by rcases hf.of b with h|h;all_goals grind
 have h2b:o2 b=aO:=by rcases hd b with h|h;all_goals grind
 have ho2:Hp.le o2 (hp w):=h2.trans hf.o
 refine⟨r,mb (Hp.one b y) o2,h0,⟨hle hf.r hr,ma Mu (hle ho2 h2b),hle hf.f S7,?_,hf.rf,?_⟩,?_,qK.trans hs.of⟩
 ·exact(iQ (kN hr) (hf.ro.mono (.refl _) h2).symm).symm
 ·exact iQ (kN S7) (hf.of.mono h2 (.refl _))
 ·exact⟨Hp.one b y,o2,kN h2b,ig _ _,gu (kN h2b),by show Hp.one _ _ _=_;simp[Hp.one],ir⟩
theorem Sat.freeze{O:de}{H:Y bG}(h:Sat O (Sl.pt b x::H) w):
 Sat O (Sl.ro (λr=>r b=aN x)::H) w:=by
 obtain⟨r,o,h0,hf,⟨o1,o2,hd,h1,h2,l6,ir⟩,qK⟩:=h
 have P':o1 b=aN x:=l6
 have hob:o b=aN x:=h1 _ _ P'
 have hr:r b=aO:=bD8
 have S7:O.f b=aO:=bD9
 have h2b:o2 b=aO:=bE0
 have kN:∀{q:Hp},q b=aO->mP (Hp.one b x) q:=by
  intro q hq n
  grind [Hp.one]
 have hole:Hp.le (Hp.one b x) (hp w):=aS8
 have UM:Hp.le r (mb (Hp.one b x) r):=gu (kN hr)
 refine⟨mb (Hp.one b x) r,o2,h0.trans UM,⟨ma hole hf.r,h2.trans hf.o,hf.f,?_,?_,hf.of.mono h2 (.refl _)⟩,?_,qK⟩
 ·exact aS9
 ·exact iQ (kN S7) hf.rf
 ·refine⟨gI,o2,ef _,dQ _,.refl _,?_,kx H UM (.refl _) ir⟩;exact aT0
theorem mo{O:de}{A F:Y bG}(h:Sat O (A++F) w):
 ∃β':de,O.le β'/\Sat β' A w/\∀B w',Sat β' B w'->Sat O (B++F) w':=by
 obtain⟨r,o,h0,hf,ir,qK⟩:=h
 obtain⟨o1,o2,hd,h1,h2,hA,hF⟩:=kQ.1 ir
 refine⟨⟨w,r,mb o2 O.f,O.q⟩,⟨h0,U⟩,⟨r,o1,.refl _,⟨hf.r,h1.trans hf.o,ma (h2.trans hf.o) hf.f,hf.ro.mono (.refl _) h1,?_,?_⟩,hA,.refl _⟩,?_⟩
 ·exact(iQ (hf.ro.mono (.refl _) h2).symm hf.rf.symm).symm
 ·exact(iQ hd.symm (hf.of.mono h1 (.refl _)).symm).symm
 ·rintro B w' ⟨r',o',pg,Xu,hB,hsm'⟩;have qL:mP o2 O.f:=hf.of.mono h2 (.refl _);have l2:Hp.le o2 (mb o2 O.f):=ig _ _;have lf:Hp.le O.f (mb o2 O.f):=gu qL;refine⟨r',mb o' o2,h0.trans pg,⟨Xu.r,ma Xu.o (l2.trans Xu.f),lf.trans Xu.f,?_,Xu.rf.mono (.refl _) lf,?_⟩,?_,qK.trans hsm'⟩
  ·exact(iQ Xu.ro.symm (Xu.rf.mono (.refl _) l2).symm).symm
  ·exact iQ (Xu.of.mono (.refl _) lf) qL
  ·exact kQ.2 ⟨o',o2,Xu.of.mono (.refl _) l2,ig _ _,gu (Xu.of.mono (.refl _) l2),hB,kx F pg (.refl _) hF⟩
end
section
variable{Q:Exit->Act->aV->Prop}{R R':aZ->aV->Prop}{P:aT}{a:Act}{f:FuncId}{w w':aV}{args:ar aR}{c x y:Code}{b:bc}{fn:Func}{v:aR}{ops:ar aW}{ρ:aY->aR}{cs:Y bc}{k':Y Item}{o:aW}{e:aZ}{t:ab}{O:de}(ro:ah ab)
abbrev Fw(ro:ah ab):Fence:={fn:=λ_=>True,depth:=aO,alive:=aQ,round:=ro}
def Fc(P:aT)(b:bc)(cs:Y bc)(e:aZ)(w':aV)(m':Machine):Prop:=
 match b.roundOf with
 |none=>∃fr,m'=lone fr cs w'/\fr.fn=b.fn/\fr.leaving P w' e
 |some _=>∃c LY,cs=c::LY/\m'=(match e with
  |.returned v=>lone (c.finish v) LY w'
  |.panicked ch=>lone (c.raise ch) LY w'
  |.outgrown=>lone c LY w')
theorem Fc.mk{fr:bc}(hr:b.roundOf=aO)(h1:fr.fn=b.fn)(h2:fr.leaving P w' e):Fc P b cs e w' (lone fr cs w'):=by
 grind [Fc]
theorem Fc.get{m':Machine}(h:Fc P b cs e w' m')(hr:b.roundOf=aO):∃fr,m'=lone fr cs w'/\fr.fn=b.fn/\fr.leaving P w' e:=by
 grind [Fc]
def yy(P:aT)(b:bc)(k:Y Item)(a:Act)(w:aV)(R:aZ->aV->Prop):Prop:=
 ∀cs,(b.roundOf.isSome=aP->cs≠[])->∃e w' m',R e w'/\Comes P (lone (b.atR a k) cs w) m' e/\Fc P b cs e w' m'
def Unw(P:aT)(b:bc)(m:FrameMode)(a:Act)(w:aV)(R:aZ->aV->Prop):Prop:=
 ∀todo cs,(b.roundOf.isSome=aP->cs≠[])->∃e w' m',R e w'/\Comes P (lone {b.atR a todo with mode:=m} cs w) m' e/\Fc P b cs e w' m'
theorem yy.step{k:Y Item}{a':Act}(h:∀cs,step P (lone (b.atR a k) cs w)=.next (lone (b.atR a' k') cs w'))(hr:yy P b k' a' w' R):yy P b k a w R:=
 λcs tr=>let⟨e,wa,m',r,c,rest⟩:=hr cs tr;⟨e,wa,m',r,.of_steps (.one (h cs)) c,rest⟩
theorem yy.mono{k:Y Item}(h:∀e w,R e w->R' e w)(hr:yy P b k a w R):yy P b k a w R':=
 λcs tr=>let⟨e,wa,m',r,rest⟩:=hr cs tr;⟨e,wa,m',h _ _ r,rest⟩
theorem Fw.room(n:ab):(Fw ro).room n:=λd hd=>by cases hd
theorem yy.of_wp{k:Y Item}(h:c.wpIn (Fw b.roundOf) 0 P Q a w)(hn:∀a w,Q .normal a w->yy P b k a w R)(hp:∀ch a w,Q (.panic ch) a w->Unw P b (.panicking ch) a w R)(ho:∀a w,¬Q .outgrown a w)(hx:∀i a w,¬Q (.exit i) a w)(hg:∀i a w,¬Q (.goto i) a w)(ht:∀a w,¬Q .ret a w):
 yy P b (.code c::k) a w R:=by
 intro cs tr
 obtain⟨e,a',w',hq,ax2⟩:=h b k cs U trivial (Fw.room _ _)
 cases e with
 |normal=>
  obtain⟨e,wa,fr,r,c,rest⟩:=hn a' w' hq cs tr;exact aT1
 |exit i=>grind
 |goto i=>grind
 |ret=>grind
 |panic ch=>
  obtain⟨todo,hs⟩:=ax2;obtain⟨e,wa,fr,r,c,rest⟩:=hp ch a' w' hq todo cs tr;exact aT2
 |outgrown=>
  grind
theorem H8(hf:P.funcs[f]?=aN fn)(hb:fn.body=aN c)(h:∀b:bc,b.fn=f->b.roundOf=aO->b.kind=.normal->yy P b [.code c] {tmps:=args++Array.replicate (fn.ntmps - args.size) undef,defers:=[]} w R):
 Calls P f args w R:=by
 intro cs
 obtain⟨e,w',m',r,hc,dF⟩:=h {(default:bc)with fn:=f,kind:=.normal,roundOf:=aO} U U U cs dW
 obtain⟨fr,rfl,h1,h2⟩:=dF.get U
 grind [Frame.enter,Frame.atR]
theorem Fe{n:Next}(h:(aU ρ o).run P w=.ok n w')(hn:∀d,n≠.defer d):(o.semAt ro ρ).run P w=.ok n w':=by
 by_cases hd:∃c,o.op=.defer c
 ·obtain⟨c,hc⟩:=hd;obtain⟨dst,op,type,pos,after,guard⟩:=o;dsimp only at hc;subst hc;simp only[aU,cb]at h;cases hr:(resolve ρ c type).run P w<;>grind [jq,db]
 grind [Oper.semAt_eq]
theorem Qa{x:Halt}(h:(aU ρ o).run P w=.halt x w'):(o.semAt ro ρ).run P w=.halt x w':=by
 by_cases hd:∃c,o.op=.defer c
 ·obtain⟨c,hc⟩:=hd;obtain⟨dst,op,type,pos,after,guard⟩:=o;dsimp only at hc;subst hc;simp only[aU,cb]at h;cases hr:(resolve ρ c type).run P w with
  |ok d w1=>simp_all
  |halt x' w1=>
   rw[hr]at h;simp only[jq,Result.halt.injEq]at h;obtain⟨rfl,rfl⟩:=h;cases ro with
   |none=>simp[Oper.semAt,aU,cb,hr,jq]
   |some l=>simp[Oper.semAt,cb,hr,jq]
 grind [Oper.semAt_eq]
theorem Ff(h:Calls P f args w R):CallsIn (Fw ro) 0 P f args w R:=
 (callsIn_wide (n:=0)).2 h
def Dh:Y aW->ai
 |[]=>aP
 |⟨_,.defer _,_,_,_,_⟩::_=>aQ
 |_::r=>Dh r
theorem Mv:∀{l:Y aW},Dh l=aP->∀o∈l,∀c,o.op≠.defer c
 |[],_,o,ho,c,hc=>by cases ho
 |⟨d,op,t,p,a,g⟩::r,h,o,ho,c,hc=>by
  have hr:Dh r=aP:=by
   cases op<;>first|exact h|(simp[Dh]at h)
  rcases cW.1 ho with rfl|ho
  ·dsimp only at hc;subst hc;simp[Dh]at h
  ·exact Mv hr o ho c hc
theorem P3{K:Act->aV->Prop}(hd:∀c,o.op≠.defer c)(h:o.wp P a w K Q):o.wpIn (Fw ro) 0 P a w K Q:=by
 refine⟨λ_ _=>trivial,?_⟩;rw[Oper.semAt_eq _ _ _ hd];unfold Oper.wp at h;generalize(aU a.eval o).run P w=r at h;cases r with
 |ok n w'=>
  cases n with
  |value v=>exact h
  |skip=>exact h
  |defer d=>exact h
  |enter f args=>exact⟨bQ,Ff ro h⟩
  |row r args=>exact⟨bQ,λc cs _=>let⟨v,w',h1,h2⟩:=h c cs;⟨v,w',h1,(stepsIn_wide (P:=P)).2 h2⟩⟩
  |_=>exact h.elim
 |halt x w'=>cases x<;>first|exact h|exact h.elim
theorem beq_false{m:ab}(e:¬m=t):eU m t=aQ:=by
 grind [fX]
def lk:Y (ab×aR)->ab->ah aR
 |[],_=>aO
 |(t,v)::r,k=>bif eU t k then aN v else lk r k
structure Env where
 n:ab
 vs:Y (ab×aR)
 ds:Y Deferred
def ik(E:Env)(a:Act):Prop:=a.tmps.size=E.n/\a.defers=E.ds/\∀t v,lk E.vs t=aN v->a.tmps[t]?=aN v
abbrev Env.put(E:Env)(d:ab)(v:aR):Env:={E with vs:=(d,v)::E.vs}
theorem ik.put{E:Env}(h:ik E a){d:ab}(hd:bM d E.n=aP)(v:aR):ik (E.put d v) (a.put (aN d) v):=by
 have hd:d<E.n:=bH hd
 obtain⟨h1,h2,h3⟩:=h
 refine⟨by simp[Act.put,h1],h2,?_⟩
 intro t u hu
 simp only[lk]at hu
 by_cases e:d=t
 ·subst e
  simp at hu
  grind [Act.put]
 grind [beq_false,Act.put]
theorem ik.less{E E':Env}(h:ik E a)(hn:E'.n=E.n)(hd:E'.ds=E.ds)(hv:∀t v,lk E'.vs t=aN v->lk E.vs t=aN v):ik E' a:=
 ⟨hn▸h.1,hd▸h.2.1,λt v e=>h.2.2 t v (hv t v e)⟩
theorem Mc{E:Env}(h:ik E a)(d:ab)(hd:lk E.vs d=aN v):ik (E.put d v) a:=by
 refine⟨h.1,h.2.1,?_⟩;intro t u hu;simp only[lk]at hu;by_cases e:d=t
 ·subst e;simp at hu;rw[<-hu];exact h.2.2 d v hd
 ·rw[beq_false e]at hu;exact h.2.2 t u hu
def Sub(l m:Y (ab×aR)):Prop:=∀t v,lk l t=aN v->lk m t=aN v
theorem Sub.nil(m:Y (ab×aR)):Sub [] m:=λ_ _ h=>by cases h
theorem Sub.cons{l m:Y (ab×aR)}(h:lk m t=aN v)(k:Sub l m):Sub ((t,v)::l) m:=by
 intro t' v' e;simp only[lk]at e;by_cases hb:eU t t'=aP
 ·simp_all
 ·simp only[Bool.not_eq_true]at hb;rw[hb]at e;exact k t' v' e
def ev(E:Env):aY->ah aR
 |.tmp t=>lk E.vs t
 |.const v=>aN v
 |.global g=>aN (.pointer (aN ⟨g,0,aO⟩))
 |.func f=>aN (.func (.func f) #[] #[])
theorem tQ{E:Env}(h:ik E a){x:aY}(e:ev E x=aN v):a.eval x=v:=by
 cases x with
 |tmp t=>
  have:=h.2.2 t v e;show a.tmps.getD t undef=v;simp_all
 |const v=>cases e;rfl
 |global g=>cases e;rfl
 |func f=>cases e;rfl
def wc(O:de)(R:aZ->Y bG->Prop)(e:aZ)(w:aV):Prop:=∃B,R e B/\Sat O B w
structure dA where
 p:Hp->Prop
 bE1:∀{r r'},Hp.le r r'->p r->p r'
 q:ai
def dA.on(G:dA)(O:de):Prop:=G.p O.r/\(O.q=aP->G.q=aP)
theorem dA.mono(G:dA){β':de}(h:O.le β')(hG:G.on O):G.on β':=⟨G.bE1 h.1 hG.1,λhq=>hG.2 (h.2▸hq)⟩
def TR(P:aT)(G:dA)(f:FuncId)(args:ar aR)(A:Y bG)(R:aZ->Y bG->Prop):Prop:=
 ∀(O:de) (w:aV),G.on O->Sat O A w->Calls P f args w (wc O R)
def SR(P:aT)(b:bc)(O:de)(k:Y Item)(E:Env)(H:Y bG)(R:aZ->Y bG->Prop):Prop:=
 ∀a w,ik E a->Sat O H w->yy P b k a w (wc O R)
def late(T:ab->ai)(ops:ar aW)(j:ab):ai:=
 (List.range ops.size).all λi=> !T i||i==j||match ops[j]? with
  |some oj=>oj.after.any λe=>Region.binds .any e&&e.on==i
  |none=>aQ
def rR(P:aT)(ops:ar aW)(Q:Exit->Act->aV->Prop)(T:ab->ai)(S:aV->Prop):ab->ar ai->Act->aV->Prop
 |0,listed,a,w=>Region.ready .any ops listed=[]/\Q .normal a w
 |fuel+1,listed,a,w=>
  (Region.ready .any ops listed=[]->Q .normal a w)/\
  ∀i∈Region.ready .any ops listed,wpOp P ops Q i (λa' w'=>(late T ops i=aP\/S w')/\rR P ops Q T S fuel (listed.setIfInBounds i aP) a' w') a w
theorem Fg{P:aT}{ops:ar aW}{Q:Exit->Act->aV->Prop}{T:ab->ai}{S:aV->Prop}:∀(fuel:ab) (listed:ar ai) (a:Act) (w:aV),rR P ops Q T S fuel listed a w->wpAny P .any ops Q fuel listed a w
 |0,_,_,_,h=>h
 |fuel+1,_,_,_,h=>⟨h.1,λi hi=>wpOp_mono (λa' w' h'=>Fg fuel _ a' w' h'.2) (h.2 i hi)⟩
theorem UN{T:ab->ai}{i j:ab}{oj:aW}(h:late T ops j=aP)(hT:T i=aP)(hi:i<ops.size)(mf:j≠i)(hj:ops[j]?=aN oj)(hno:∀e∈oj.after,Region.binds .any e=aP->e.on≠i):False:=by
 have:=(gi.1 h) i (List.mem_range.2 hi)
 grind
theorem Kx{T:ab->ai}{S:aV->Prop}{i:ab}{oi:aW}(hi:ops[i]?=aN oi)(hT:T i=aP)(Qb:∀(j:ab) (o:aW) cs b,ops[j]?=aN o->o.op≠.select cs b)(hQ:∀c a w,Q (.panic c) (a.put oi.dst v) w->Q (.panic c) a w):
 ∀(fuel:ab) (listed:ar ai) (a:Act) (w:aV),
  (∀j oj,ops[j]?=aN oj->j≠i->listed.getD j aP=aQ->(∀e∈oj.after,Region.binds .any e=aP->e.on≠i)->oi.apart ops oj=aP)->
  i∈Region.ready .any ops listed->YieldsIf P ops S oi v a->S w->
  rR P ops Q T S fuel (listed.setIfInBounds i aP) (a.put oi.dst v) w->rR P ops Q T S (fuel+1) listed a w:=by
 have vz:i<ops.size:=(fB.1 hi).1
 intro fuel
 induction fuel with
 |zero=>
  intro listed a w _ hr hy hS b54;refine⟨λh=>bQ,λj hj=>?_⟩;by_cases UO:j=i
  ·subst UO;exact hy.wpOp hi hS ⟨.inr hS,b54⟩
  ·have:=ready_mono hj UO;rw[b54.1]at this;cases this
 |succ fuel ih=>
  intro listed a w aT3 hr hy hS b54;refine⟨λh=>bQ,λj hj=>?_⟩;by_cases UO:j=i
  ·subst UO;exact hy.wpOp hi hS ⟨.inr hS,b54⟩
  ·have h1:=b54.2 j (ready_mono hj UO);obtain⟨hjun,oj,hoj,uB⟩:=mem_ready.1 hj;have hun0:=(mem_ready.1 hr).1;have hnot:∀e∈oj.after,Region.binds .any e=aP->e.on≠i:=bQ;have h2:=wpOp_putIf hoj (aT3 j oj hoj UO hjun hnot) (λcs b=>Qb i oi cs b hi) (λcs b=>Qb j oj cs b hoj) hQ hy h1;have hfree':∀k ok,ops[k]?=aN ok->k≠i->(listed.setIfInBounds j aP).getD k aP=aQ->
    (∀e∈ok.after,Region.binds .any e=aP->e.on≠i)->oi.apart ops ok=aP:=λk ok hk hki hun hno=>by
    refine aT3 k ok hk hki ?_ hno
    by_cases hjk:j=k
    all_goals simp_all
   have hcomm:(listed.setIfInBounds j aP).setIfInBounds i aP=(listed.setIfInBounds i aP).setIfInBounds j aP:=Array.setIfInBounds_comm _ _ UO;refine wpOp_mono (λa' w' h3=>?_) h2;obtain⟨hy',Ao,sS⟩:=h3;have hSw:S w':=Ao.elim (λhl=>(UN hl hT vz UO hoj hnot).elim) id;exact⟨.inr hSw,ih (listed.setIfInBounds j aP) a' w' hfree' (ready_mono hr (Ne.symm UO)) hy' hSw (by rw[hcomm];exact sS)⟩
inductive Kt where
 |it (k:Y Item)
 |pr (p:Act->aV->Prop)
 |dr (ops:ar aW) (T:ab->ai) (Fx:Y bG) (done:Y ab) (k:Y Item)
 |uv (ops:ar aW) (T:ab->ai) (Fx:Y bG) (i:ab) (done:Y ab) (k:Y Item)
class Kt.pC(k:Kt):Prop where out:∀p,k≠.pr p
instance(k:Y Item):Kt.pC (.it k):=⟨λ_ h=>by cases h⟩
instance(ops:ar aW)(T:ab->ai)(Fx:Y bG)(done:Y ab)(k:Y Item):Kt.pC (.dr ops T Fx done k):=⟨λ_ h=>by cases h⟩
instance(ops:ar aW)(T:ab->ai)(Fx:Y bG)(i:ab)(done:Y ab)(k:Y Item):Kt.pC (.uv ops T Fx i done k):=⟨λ_ h=>by cases h⟩
def mark(n:ab):Y ab->ar ai
 |[]=>Array.replicate n aQ
 |i::r=>(mark n r).setIfInBounds i aP
def isDst(ops:ar aW)(t:ab):Prop:=∃o∈ops.toList,o.dst=aN t
def PD(P:aT)(b:bc)(O:de)(W:ab->Prop)(R:aZ->Y bG->Prop)(ch:Y PanicEntry)(a:Act)(w:aV):Prop:=
 ∀a',a'.tmps.size=a.tmps.size->a'.defers=a.defers->(∀t,¬W t->a'.tmps[t]?=a.tmps[t]?)->Unw P b (.panicking ch) a' w (wc O R)
def QD(P:aT)(b:bc)(O:de)(ops:ar aW)(k:Y Item)(R:aZ->Y bG->Prop):Exit->Act->aV->Prop
 |.normal,a,w=>yy P b k a w (wc O R)
 |.panic ch,a,w=>PD P b O (isDst ops) R ch a w
 |_,_,_=>False
def KN(P:aT)(b:bc)(O:de)(R:aZ->Y bG->Prop):Kt->Act->aV->Prop
 |.it k,a,w=>yy P b k a w (wc O R)
 |.pr p,a,w=>p a w
 |.dr ops T Fx done k,a,w=>rR P ops (QD P b O ops k R) T (Sat O Fx) (ops.size - done.length) (mark ops.size done) a w
 |.uv ops T Fx i done k,a,w=>(late T ops i=aP\/Sat O Fx w)/\rR P ops (QD P b O ops k R) T (Sat O Fx) (ops.size - done.length) (mark ops.size done) a w
def QK(P:aT)(b:bc)(O:de)(k:Kt)(R:aZ->Y bG->Prop):Exit->Act->aV->Prop
 |.normal,a,w=>KN P b O R k a w
 |.panic ch,a,w=>match k with
  |.it _=>Unw P b (.panicking ch) a w (wc O R)
  |.pr _=>False
  |.dr ops ..=>PD P b O (isDst ops) R ch a w
  |.uv ops ..=>PD P b O (isDst ops) R ch a w
 |_,_,_=>False
def Kt.W:Kt->ab->Prop
 |.dr ops ..,t=>isDst ops t
 |.uv ops ..,t=>isDst ops t
 |_,_=>False
theorem XU{k:Kt}[hk:Kt.pC k]{R:aZ->Y bG->Prop}{ch:Y PanicEntry}(h:PD P b O k.W R ch a w):QK P b O k R (.panic ch) a w:=by
 cases k with
 |it k=>exact h a U U (λ_ _=>rfl)
 |pr p=>exact(hk.out p U).elim
 |dr=>exact h
 |uv=>exact h
def RL(P:aT)(ops:ar aW)(p:Act->aV->Prop):Y aW->Act->aV->Prop
 |[],a,w=>p a w
 |o::rest,a,w=>(Region.wanted o (yielded ops a.tmps)=aP/\∃v,(aU a.eval o).run P w=.ok (.value v) w/\RL P ops p rest (a.put o.dst v) w)\/
  (Region.wanted o (yielded ops a.tmps)=aQ/\RL P ops p rest (a.put o.dst undef) w)
def WL(P:aT)(b:bc)(O:de)(ops:ar aW)(k:Kt)(R:aZ->Y bG->Prop)(l:Y aW)(a:Act)(w:aV):Prop:=
 match k with
 |.pr p=>RL P ops p l a w
 |.it k=>wpListIn (Fw b.roundOf) 0 P ops (QK P b O (.it k) R) l a w
 |.dr o T Fx done k=>wpList P ops (QK P b O (.dr o T Fx done k) R) l a w
 |.uv o T Fx i done k=>wpList P ops (QK P b O (.uv o T Fx i done k) R) l a w
section
variable {P:aT}{b:bc}{O:de}{ops:ar aW}{k:Kt}[hk:Kt.pC k]{R:aZ->Y bG->Prop}{rest:Y aW}{o:aW}{a:Act}{w w':aV}
theorem qj{F:Fence}(hw:Region.wanted o (yielded ops a.tmps)=aP)(h:o.wpIn F 0 P a w (wpListIn F 0 P ops Q rest) Q):wpListIn F 0 P ops Q (o::rest) a w:=by
 grind [wpListIn]
theorem WL.val(hw:Region.wanted o (yielded ops a.tmps)=aP)(hr:(aU a.eval o).run P w=.ok (.value v) w')(h:WL P b O ops k R rest (a.put o.dst v) w'):WL P b O ops k R (o::rest) a w:=bE2
theorem bm3(hw:Region.wanted o (yielded ops a.tmps)=aP)(hr:(aU a.eval o).run P w=.ok .skip w')(h:WL P b O ops k R rest (a.put o.dst undef) w'):WL P b O ops k R (o::rest) a w:=bE2
theorem PQ(hw:Region.wanted o (yielded ops a.tmps)=aQ)(h:WL P b O ops k R rest (a.put o.dst undef) w):WL P b O ops k R (o::rest) a w:=by
 cases k with
 |pr p=>exact(hk.out p U).elim
 |it k=>show wpListIn _ _ _ _ _ _ _ _;unfold wpListIn;rw[aj (by rw[hw];simp)];exact⟨λ_ _=>trivial,h⟩
 |dr=>show wpList _ _ _ _ _ _;unfold wpList;rw[hw];simp only[di,aI];exact h
 |uv=>show wpList _ _ _ _ _ _;unfold wpList;rw[hw];simp only[di,aI];exact h
theorem WL.dE(hw:Region.wanted o (yielded ops a.tmps)=aP)(hr:(aU a.eval o).run P w=.ok (.enter f args) w')(hc:Calls P f args w' R')(h1:∀v wa,R' (.returned v) wa->WL P b O ops k R rest (a.put o.dst v) wa)(h2:∀ch wa,R' (.panicked ch) wa->QK P b O k R (.panic ch) a wa)(h3:∀wa,¬R' .outgrown wa):WL P b O ops k R (o::rest) a w:=by
 cases k with
 |pr p=>exact(hk.out p U).elim
 |it k=>exact qj hw ⟨λ_ _=>trivial,by rw[Fe _ hr dW];exact⟨bQ,Ff _ (hc.mono λe wa he=>by
  cases e with
  |returned v=>exact h1 v wa he
  |panicked ch=>grind
  |outgrown=>grind)⟩⟩
 |dr=>show wpList _ _ _ _ _ _;unfold wpList;rw[hw];refine .inl ?_;unfold Oper.wp;rw[hr];exact(hc.mono λe wa he=>by
  cases e with
  |returned v=>exact h1 v wa he
  |panicked ch=>grind
  |outgrown=>grind)
 |uv=>show wpList _ _ _ _ _ _;unfold wpList;rw[hw];refine .inl ?_;unfold Oper.wp;rw[hr];exact(hc.mono λe wa he=>by
  cases e with
  |returned v=>exact h1 v wa he
  |panicked ch=>grind
  |outgrown=>grind)
theorem bn3(hw:Region.wanted o (yielded ops a.tmps)=aP)(hr:(aU a.eval o).run P w=.halt (.panic v) w')(h:QK P b O k R (.panic [{v,recovered:=aQ}]) a w'):WL P b O ops k R (o::rest) a w:=by
 cases k with
 |pr p=>exact(hk.out p U).elim
 |it k=>exact qj hw ⟨λ_ _=>trivial,by rw[Qa _ hr];exact h⟩
 |dr=>show wpList _ _ _ _ _ _;unfold wpList;rw[hw];refine .inl ?_;unfold Oper.wp;rw[hr];exact h
 |uv=>show wpList _ _ _ _ _ _;unfold wpList;rw[hw];refine .inl ?_;unfold Oper.wp;rw[hr];exact h
theorem Yk{d:Deferred}(mM:b.roundOf=aO)(hw:Region.wanted o (yielded ops a.tmps)=aP)(hr:(aU a.eval o).run P w=.ok (.defer d) w')(h:WL P b O ops k R rest ({a with defers:=d::a.defers}.put o.dst undef) w'):WL P b O ops k R (o::rest) a w:=by
 cases k with
 |pr p=>exact(hk.out p U).elim
 |it k=>exact qj hw ⟨λ_ _=>trivial,by rw[show(Fw b.roundOf).round=aO from mM,Oper.semAt_none,hr];exact h⟩
 |dr=>show wpList _ _ _ _ _ _;unfold wpList;rw[hw];refine .inl ?_;unfold Oper.wp;rw[hr];exact h
 |uv=>show wpList _ _ _ _ _ _;unfold wpList;rw[hw];refine .inl ?_;unfold Oper.wp;rw[hr];exact h
theorem bn6{l:ab}{tmps:ar aR}{b49 bd:Code}{k:Y Item}(hw:Region.wanted o (yielded ops a.tmps)=aP)(hr:(aU a.eval o).run P w=.ok (.round l f tmps b49 bd) w')(hc:RoundIn (Fw b.roundOf) 0 P l f tmps b49 bd w' R')(h1:∀v wa,R' (.returned v) wa->WL P b O ops (.it k) R rest (a.put o.dst v) wa)(h2:∀ch wa,¬R' (.panicked ch) wa)(h3:∀wa,¬R' .outgrown wa):WL P b O ops (.it k) R (o::rest) a w:=by
 refine qj hw ⟨λ_ _=>trivial,?_⟩
 rw[Fe _ hr dW]
 refine⟨bQ,hc.mono ?_⟩
 intro e wa he
 cases e with
 |returned v=>exact h1 v wa he
 |panicked ch=>grind
 |outgrown=>grind
end
def SL(P:aT)(b:bc)(O:de)(ops:ar aW)(l:Y aW)(k:Kt)(E:Env)(H:Y bG)(R:aZ->Y bG->Prop):Prop:=
 ∀a w,ik E a->Sat O H w->WL P b O ops k R l a w
def SK(P:aT)(b:bc)(O:de)(k:Kt)(E:Env)(H:Y bG)(R:aZ->Y bG->Prop):Prop:=
 ∀a w,ik E a->Sat O H w->KN P b O R k a w
section
variable {P:aT}{b:bc}{O:de}{k:Y Item}{E:Env}{H:Y bG}{R:aZ->Y bG->Prop}
theorem SR.seq(h:SR P b O (.code x::.code y::k) E H R):SR P b O (.code (.seq x y)::k) E H R:=
 λa w he hs=>.step (λ_=>stepR_seq) (h a w he hs)
theorem SR.skip(h:SR P b O k E H R):SR P b O (.code .skip::k) E H R:=
 λa w he hs=>.step (λ_=>stepR_skip) (h a w he hs)
theorem SR.block{id:ab}(h:SR P b O (.code c::.inBlock id::k) E H R):SR P b O (.code (.block id c)::k) E H R:=
 λa w he hs=>.step (λ_=>stepR_block) (h a w he hs)
theorem SR.inBlock{id:ab}(h:SR P b O k E H R):SR P b O (.inBlock id::k) E H R:=
 λa w he hs=>.step (λ_=>stepR_inBlock) (h a w he hs)
theorem SR.exit{id:ab}(hk:exitTo id k=aN k')(h:SR P b O k' E H R):SR P b O (.code (.exit id)::k) E H R:=
 λa w he hs=>.step (λ_=>stepR_exit hk) (h a w he hs)
theorem SR.cond{c:aY}{t:ai}(hc:ev E c=aN (.bool t))(h1:t=aP->SR P b O (.code x::k) E H R)(h2:t=aQ->SR P b O (.code y::k) E H R):
 SR P b O (.code (.cond c x y)::k) E H R:=λa w he hs=>
 .step (λ_=>stepR_cond (tQ he hc)) (by
  cases t
  ·exact h2 U a w he hs
  ·exact h1 U a w he hs)
theorem SR.bY3{c:aY}(hc:ev E c=aN (.bool aP))(h1:SR P b O (.code x::k) E H R):SR P b O (.code (.cond c x y)::k) E H R:=
 by grind [SR.cond]
theorem SR.bY4{c:aY}(hc:ev E c=aN (.bool aQ))(h1:SR P b O (.code y::k) E H R):SR P b O (.code (.cond c x y)::k) E H R:=
 by grind [SR.cond]
theorem SR.loop{ι:Type}(st:ι->Y (ab×aR)×Y bG)(μ:ι->ab)(i₀:ι)(h0:Sub (st i₀).1 E.vs)(hH:bS H (st i₀).2)(body:∀i,(∀i',μ i'<μ i->SR P b O (.inLoop c::k) {E with vs:=(st i').1} (st i').2 R)->SR P b O (.code c::.inLoop c::k) {E with vs:=(st i).1} (st i).2 R):
 SR P b O (.code (.loop c)::k) E H R:=by
 have key:∀n i,μ i=n->SR P b O (.code c::.inLoop c::k) {E with vs:=(st i).1} (st i).2 R:=by
  intro n;induction n using Nat.strongRecOn with
  |_ n ih=>
   intro i hi;refine body i λi' vz a w he hs=>?_;exact .step (λ_=>stepR_inLoop) (ih (μ i') (hi▸vz) i' U a w he hs)
 intro a w he hs
 exact .step (λ_=>stepR_loop) (key _ i₀ U a w (he.less U U h0) (hs.dE hH))
theorem SR.less{vs:Y (ab×aR)}{Hs':Y bG}(h:SR P b O k {E with vs} Hs' R)(hv:Sub vs E.vs)(hH:bS H Hs'):SR P b O k E H R:=
 λa w he hs=>h a w (he.less U U hv) (hs.dE hH)
theorem SR.region{id:ab}{l:Y aW}(h:SL P b O l.toArray l (.it k) E H R):SR P b O (.code (.region id l.toArray aQ)::k) E H R:=
 λa w he hs=>.of_wp (wpIn_region_lit (h a w he hs)) (λ_ _ h=>h) (λ_ _ _ h=>h) (λ_ _ h=>h) (λ_ _ _ h=>h) (λ_ _ _ h=>h) (λ_ _ h=>h)
theorem SL.nil{k:Kt}(h:SK P b O k E H R):SL P b O ops [] k E H R:=by
 intro a w he hs;have:=h a w he hs;cases k<;>exact this
theorem SR.ret(mM:b.roundOf=aO)(hf:P.funcs[b.fn]?=aN fn)(hb:b.kind=.normal)(hd:E.ds=[])(h:∀a w,ik E a->Sat O H w->∃v,(results fn a.tmps).run P w=.ok v w/\wc O R (.returned v) w):SR P b O (.code .ret::k) E H R:=by
 intro a w he hs cs _
 obtain⟨v,hr,hR⟩:=h a w he hs
 refine⟨.returned v,w,_,hR,.one (stepR_ret mM),.mk mM U ⟨U,?_,hb,fn,hf,hr⟩⟩
 show a.defers=[]
 rw[he.2.1,hd]
theorem SR.fin(mM:b.roundOf=aO)(hf:P.funcs[b.fn]?=aN fn)(hb:b.kind=.normal)(hd:E.ds=[])(h:∀a w,ik E a->Sat O H w->∃v,(results fn a.tmps).run P w=.ok v w/\wc O R (.returned v) w):SR P b O [] E H R:=by
 intro a w he hs cs _
 obtain⟨v,hr,hR⟩:=h a w he hs
 refine⟨.returned v,w,_,hR,.one (stepR_end mM),.mk mM U ⟨U,?_,hb,fn,hf,hr⟩⟩
 show a.defers=[]
 rw[he.2.1,hd]
structure nL(b:bc)(f:FuncId):Prop where
 fn:b.fn=f
 ro:b.roundOf=aO
theorem TR.enter{G:dA}{A:Y bG}(hf:P.funcs[f]?=aN fn)(hb:fn.body=aN c)(vs:Y (ab×aR))(hvs:Sub vs (args.toList.zipIdx.map fun(v,i)=>(i,v)))(h:∀b O,nL b f->b.kind=.normal->G.on O->SR P b O [.code c] ⟨args.size+(fn.ntmps - args.size),vs,[]⟩ A R):TR P G f args A R:=by
 intro O w hG hs
 refine H8 hf hb λb h1 h0 h2=>h b O ⟨h1,h0⟩ h2 hG _ w ⟨by simp,U,?_⟩ hs
 intro t v ht
 have h3:=hvs t v ht
 have key:∀(l:Y aR) (m t:ab) (v:aR),lk ((l.zipIdx m).map fun(v,i)=>(i,v)) t=aN v->m<=t/\l[t - m]?=aN v:=by
  intro l;induction l with
  |nil=>intro m t v h;cases h
  |cons x l ih=>
   intro m t v h;simp only[List.zipIdx_cons,bN,lk]at h;by_cases e:m=t;all_goals grind [beq_false]
 grind
end
end
section
variable{R:aZ->Y bG->Prop}{ds:Y Deferred}{c:ah (ar aW×Y aW)}{vs:Y (ab×aR)}{P:aT}{d N:ab}{H Hs':Y bG}{E:Env}{v:aR}{b:bc}{O:de}{a:Act}{t:ai}
def X(P:aT)(b:bc)(O:de)(c:ah (ar aW×Y aW))(k:Kt)(E:Env)(H:Y bG)(R:aZ->Y bG->Prop):Prop:=
 b.kind=.normal->match c with
  |none=>SK P b O k E H R
  |some (ops,l)=>SL P b O ops l k E H R
def fI(vs:Y (ab×aR)):aY->ah aR
 |.tmp t=>lk vs t
 |.const v=>aN v
 |.global g=>aN (.pointer (aN ⟨g,0,aO⟩))
 |.func f=>aN (.func (.func f) #[] #[])
def oO(vs:Y (ab×aR)):Y aY->ah (Y aR)
 |[]=>aN []
 |x::r=>match fI vs x with
  |none=>aO
  |some v=>match oO vs r with
   |none=>aO
   |some l=>aN (v::l)
theorem mg{E:Env}{a:Act}(h:ik E a):∀{l:Y aY} {us:Y aR},oO E.vs l=aN us->l.map a.eval=us
 |[],us,e=>by cases e;rfl
 |x::r,us,e=>by
  simp only[oO]at e;split at e
  ·cases e
  ·rename_i v hv;split at e
   ·cases e
   ·rename_i l hl;cases e;have h1:a.eval x=v:=tQ h (by cases x<;>exact hv);simp[h1,mg h hl]
def bE3(op:BinOp)(k:IntKind)(m n:ae):ah aR:=
 match op with
 |.eql=>aN (.bool (m==n))
 |.neq=>aN (.bool (m !=n))
 |.lss=>aN (.bool (decide (m<n)))
 |.leq=>aN (.bool (decide (m<=n)))
 |.gtr=>aN (.bool (decide (m>n)))
 |.geq=>aN (.bool (decide (m≥n)))
 |.and=>aN (.int k (k.wrap (BitVec.ofInt k.bits m&&&BitVec.ofInt k.bits n).toNat))
 |.or=>aN (.int k (k.wrap (BitVec.ofInt k.bits m|||BitVec.ofInt k.bits n).toNat))
 |.xor=>aN (.int k (k.wrap (BitVec.ofInt k.bits m^^^BitVec.ofInt k.bits n).toNat))
 |_=>aO
def pop(vs:Y (ab×aR)):Op->ah aR
 |.move x=>fI vs x
 |.assign x=>fI vs x
 |.extract x i=>match fI vs x with
  |some (.tuple us)=>us.toList[i]?
  |_=>aO
 |.nilCheck x=>match fI vs x with
  |some (.pointer (aN p))=>aN (.pointer (aN p))
  |some (.func (.func f) a c)=>aN (.func (.func f) a c)
  |_=>aO
 |.binOp op _ x y _=>match fI vs x,fI vs y with
  |some (.int k m),aN (.int k' n)=>match decide (k=k')with
   |true=>bE3 op k m n
   |false=>aO
  |_,_=>aO
 |.unOp op _ x=>match op,fI vs x with
  |.not,aN (.bool t)=>aN (.bool (!t))
  |_,_=>aO
 |.makeFunc fn first cap=>match oO vs first.toList,oO vs cap.toList with
  |some f,aN c=>aN (.func fn f.toArray c.toArray)
  |_,_=>aO
 |_=>aO
theorem uC{x:aY}:fI E.vs x=ev E x:=by cases x<;>rfl
theorem Yw(h:ik E a){o:aW}(e:pop E.vs o.op=aN v)(w:aV):
 (aU a.eval o).run P w=.ok (.value v) w:=by
 obtain⟨dst,op,type,pos,after,guard⟩:=o
 dsimp only at e ⊢
 cases op<;>simp only[pop]at e<;>try(cases e;done)
 case move x=>have:=tQ h (uC▸e);simp[aU,this,pure]
 case assign x=>have:=tQ h (uC▸e);simp[aU,this,pure]
 case extract x i=>
  split at e
  ·rename_i us hx;have h1:=tQ h (uC▸hx);rw[eE]at e;simp[aU,h1,Instr.extract,e,pure,bind,Sem.bind]
  ·cases e
 case nilCheck x=>
  split at e
  ·rename_i p hx;exact aT5
  ·rename_i f fa c hx;exact aT5
  ·cases e
 case binOp op t x y t'=>
  split at e
  ·rename_i k m k' n hx hy;have h1:=tQ h (uC▸hx);have h2:=tQ h (uC▸hy);split at e
   ·rename_i hk;have hk:k=k':=bQ;subst hk;cases op<;>simp only[bE3]at e<;>try(cases e;done)
    all_goals
     cases e
     simp[aU,h1,h2,eqGuard,binOp,Op.intCmp,Op.intBits,pure,bind,Sem.bind]
   ·cases e
  ·cases e
 case unOp op t x=>
  split at e
  ·rename_i t hx;cases e;have h1:=tQ h (uC▸hx);simp[aU,h1,Op.unary,pure,bind,Sem.bind]
  ·cases e
 case makeFunc fn first cap=>
  split at e
  ·rename_i f c hf hc;cases e;have h1:=mg h hf;have h2:=mg h hc;have e1:first.map a.eval=f.toArray:=bQ
   have e2:cap.map a.eval=c.toArray:=bQ;simp[aU,e1,e2,Instr.makeFunc,pure,bind,Sem.bind]
  ·cases e
section
variable {P:aT}{b:bc}{O:de}{k:Kt}{E:Env}{H:Y bG}{R:aZ->Y bG->Prop}{ops:ar aW}{rest:Y aW}{o:aW}
def bO(ops:ar aW)(vs:Y (ab×aR))(o:aW):ah ai:=
 match o.guard with
 |none=>aN aP
 |some (j,want)=>match(ops[j]?).bind (·.dst)with
  |none=>aO
  |some d=>match lk vs d with
   |some (.bool t)=>aN (t==want)
   |some (.tuple _)=>aN aQ
   |_=>aO
theorem lU(h:ik E a)(e:bO ops E.vs o=aN t):Region.wanted o (yielded ops a.tmps)=t:=by
 unfold bO at e
 unfold Region.wanted
 split at e
 ·grind
 ·rename_i j want hg;split at e
  ·cases e
  ·rename_i d hd;split at e
   ·rename_i u hu
    cases e
    have h3:=h.2.2 _ _ hu
    grind [yielded]
   ·rename_i u hu
    cases e
    have h3:=h.2.2 _ _ hu
    grind [yielded]
   ·cases e
theorem X.op[hk:Kt.pC k](hw:bO ops E.vs o=aN aP)
 (h:∀a w,ik E a->Sat O H w->∃v w',(aU a.eval o).run P w=.ok (.value v) w'/\WL P b O ops k R rest (a.put o.dst v) w'):
 X P b O (aN (ops,o::rest)) k E H R:=by
 intro hb a w he hs
 grind [WL.val,lU]
theorem bD4[hk:Kt.pC k](hw:bO ops E.vs o=aN aP)
 (h:∀a w,ik E a->Sat O H w->∃w',(aU a.eval o).run P w=.ok .skip w'/\WL P b O ops k R rest (a.put o.dst undef) w'):
 X P b O (aN (ops,o::rest)) k E H R:=by
 intro hb a w he hs
 grind [bm3,lU]
theorem X.val(hd:o.dst=aN d)(hn:bM d E.n=aP)(hw:bO ops E.vs o=aN aP)(hr:∀a w,ik E a->Sat O H w->(aU a.eval o).run P w=.ok (.value v) w)(h:X P b O (aN (ops,rest)) k (E.put d v) H R):X P b O (aN (ops,o::rest)) k E H R:=by
 intro hb a w he hs
 have h1:=h hb _ _ (he.put hn v) hs
 rw[<-hd]at h1
 have h2:=hr a w he hs
 have h3:=lU he hw
 cases k with
 |pr p=>exact .inl ⟨h3,v,h2,h1⟩
 |it=>grind [WL.val]
 |dr=>grind [WL.val]
 |uv=>grind [WL.val]
theorem E9[hk:Kt.pC k](hd:o.dst=aN d)(hn:bM d E.n=aP)(hw:bO ops E.vs o=aN aP)(hr:∀a w,ik E a->Sat O H w->∃w',(aU a.eval o).run P w=.ok (.value v) w'/\Sat O Hs' w')(h:X P b O (aN (ops,rest)) k (E.put d v) Hs' R):X P b O (aN (ops,o::rest)) k E H R:=by
 intro hb
 refine X.op hw (λa w he hs=>?_) hb
 obtain⟨w',h1,h2⟩:=hr a w he hs
 refine⟨v,w',h1,?_⟩
 rw[hd]
 exact h hb _ _ (he.put hn v) h2
theorem mN[hk:Kt.pC k]{ι:Type}{v:ι->aR}{Hs':ι->Y bG}(hd:o.dst=aN d)(hn:bM d E.n=aP)(hw:bO ops E.vs o=aN aP)(hr:∀a w,ik E a->Sat O H w->∃i w',(aU a.eval o).run P w=.ok (.value (v i)) w'/\Sat O (Hs' i) w')(h:∀i,X P b O (aN (ops,rest)) k (E.put d (v i)) (Hs' i) R):X P b O (aN (ops,o::rest)) k E H R:=by
 intro hb
 refine X.op hw (λa w he hs=>?_) hb
 obtain⟨i,w',h1,h2⟩:=hr a w he hs
 refine⟨v i,w',h1,?_⟩
 rw[hd]
 exact h i hb _ _ (he.put hn _) h2
theorem Mp[hk:Kt.pC k](hd:o.dst=aO)(hw:bO ops E.vs o=aN aP)(hr:∀a w,ik E a->Sat O H w->∃w',(aU a.eval o).run P w=.ok .skip w'/\Sat O Hs' w')(h:X P b O (aN (ops,rest)) k E Hs' R):X P b O (aN (ops,o::rest)) k E H R:=by
 intro hb
 refine bD4 hw (λa w he hs=>?_) hb
 obtain⟨w',h1,h2⟩:=hr a w he hs
 refine⟨w',h1,?_⟩
 rw[hd]
 exact h hb _ _ he h2
theorem bn1(hd:o.dst=aN d)(hn:bM d E.n=aP)(hw:bO ops E.vs o=aN aQ)(h:X P b O (aN (ops,rest)) k (E.put d undef) H R):X P b O (aN (ops,o::rest)) k E H R:=by
 intro hb a w he hs
 have h1:=h hb _ _ (he.put hn _) hs
 rw[<-hd]at h1
 have h3:=lU he hw
 cases k with
 |pr p=>exact .inr ⟨h3,h1⟩
 |it=>grind [PQ]
 |dr=>grind [PQ]
 |uv=>grind [PQ]
theorem X.split(d:ab)(hd:lk vs d=aN (.bool t))(h1:t=aP->X P b O c k ⟨N,(d,.bool aP)::vs,ds⟩ H R)(h2:t=aQ->X P b O c k ⟨N,(d,.bool aQ)::vs,ds⟩ H R):X P b O c k ⟨N,vs,ds⟩ H R:=by
 have key:∀u,t=u->∀a,ik ⟨N,vs,ds⟩ a->ik ⟨N,(d,.bool u)::vs,ds⟩ a:=by
  rintro u rfl a he;exact Mc (E:=⟨N,vs,ds⟩) he d hd
 intro hb
 cases t
 ·have:=h2 U hb;exact aT6
 ·have:=h1 U hb;exact aT6
end
inductive Pt where
 |mk (c:ah (ar aW×Y aW)) (k:Kt) (vs:Y (ab×aR))
 |off
def Yx(N:ab):ab->ah (ar aW×Y aW)->Kt->Y (ab×aR)->Pt
 |0,c,k,vs=>.mk c k vs
 |n+1,aO,.it (.code (.seq x y)::k),vs=>Yx N n aO (.it (.code x::.code y::k)) vs
 |n+1,aO,.it (.code .skip::k),vs=>Yx N n aO (.it k) vs
 |n+1,aO,.it (.code (.block id c)::k),vs=>Yx N n aO (.it (.code c::.inBlock id::k)) vs
 |n+1,aO,.it (.inBlock _::k),vs=>Yx N n aO (.it k) vs
 |_+1,aO,.it (.code (.region id ops aP)::k),vs=>.mk aO (.it (.code (.region id ops aP)::k)) vs
 |n+1,aO,.it (.code (.region _ ops aQ)::k),vs=>Yx N n (aN (ops,ops.toList)) (.it k) vs
 |_+1,aO,k,vs=>.mk aO k vs
 |n+1,aN (_,[]),k,vs=>Yx N n aO k vs
 |n+1,aN (ops,⟨dst,op,ty,pos,after,guard⟩::rest),k,vs=>
  match guard,dst,pop vs op with
  |none,aN d,aN v=>match bM d N with
   |true=>Yx N n (aN (ops,rest)) k ((d,v)::vs)
   |false=>.mk (aN (ops,⟨dst,op,ty,pos,after,guard⟩::rest)) k vs
  |_,_,_=>.mk (aN (ops,⟨dst,op,ty,pos,after,guard⟩::rest)) k vs
theorem SR.ax3{k:Y Item}{id:ab}{ops:ar aW}(h:SL P b O ops ops.toList (.it k) E H R):SR P b O (.code (.region id ops aQ)::k) E H R:=by
 obtain⟨l⟩:=ops
 exact SR.region h
theorem bD0:∀(n:ab) {c:ah (ar aW×Y aW)} {k:Kt} {vs:Y (ab×aR)} {c':ah (ar aW×Y aW)} {k':Kt} {BP:Y (ab×aR)},
 Yx N n c k vs=.mk c' k' BP->X P b O c' k' ⟨N,BP,ds⟩ H R->X P b O c k ⟨N,vs,ds⟩ H R:=by
 intro n
 induction n with
 |zero=>intro c k vs c' k' BP h;simp only[Sl.Yx,Pt.mk.injEq]at h;obtain⟨rfl,rfl,rfl⟩:=h;exact id
 |succ n ih=>
  intro c k vs c' k' BP h hx;unfold Sl.Yx at h;split at h
  ·rename_i e;cases e
  ·rename_i e;cases e;exact λhb=>SR.seq (ih h hx hb)
  ·rename_i e;cases e;exact λhb=>SR.skip (ih h hx hb)
  ·rename_i e;cases e;exact λhb=>SR.block (ih h hx hb)
  ·rename_i e;cases e;exact λhb=>SR.inBlock (ih h hx hb)
  ·cases h;exact hx
  ·rename_i e;cases e;exact λhb=>SR.ax3 (ih h hx hb)
  ·cases h;exact hx
  ·rename_i e;cases e;exact λhb=>SL.nil (ih h hx hb)
  ·rename_i e;cases e;split at h
   ·rename_i d v hv;split at h
    ·rename_i hn;exact X.val (v:=v) U hn U (λa w he _=>Yw he hv w) (ih h hx)
    ·cases h;exact hx
   ·cases h;exact hx
def ax4(N:ab):ah (ar aW×Y aW)->Kt->Y (ab×aR)->ai
 |none,.it (.code (.seq _ _)::_),_=>aP
 |none,.it (.code .skip::_),_=>aP
 |none,.it (.code (.block _ _)::_),_=>aP
 |none,.it (.inBlock _::_),_=>aP
 |none,.it (.code (.region _ _ aQ)::_),_=>aP
 |none,_,_=>aQ
 |some (_,[]),_,_=>aP
 |some (_,⟨dst,op,_,_,_,guard⟩::_),_,vs=>
  match guard,dst,pop vs op with
  |none,aN d,aN _=>bM d N
  |_,_,_=>aQ
theorem X.go(n:ab){k:Kt}{c':ah (ar aW×Y aW)}{k':Kt}{BP:Y (ab×aR)}(_:ax4 N c k vs=aP)(h:Sl.Yx N n c k vs=.mk c' k' BP)(hx:X P b O c' k' ⟨N,BP,ds⟩ H R):X P b O c k ⟨N,vs,ds⟩ H R:=bD0 n h hx
end
section
variable{t ty:TypeId}{cs l:Y aR}{v:aR}{b i n:ab}
class qQ(P:aT)(t:ab)(e:ay ab):Prop where out:P.underlying t=aN (.slice e)
class zV(P:aT)(t:ab)(k e:ay ab):Prop where out:P.underlying t=aN (.map k e)
class Xv(P:aT)(t:ab)(e:ay ab):Prop where out:P.underlying t=aN (.pointer e)
class qm(P:aT)(t:ab):Prop where out:P.underlying t=aN .string
class bo8(P:aT)(t:ab):Prop where out:P.underlying t=aN .bool
class vA(P:aT)(t:ab)(k:ay IntKind):Prop where out:P.underlying t=aN (.int k)
class jH(P:aT)(t:ab)(n:ay ab):Prop where out:(P.info? t).map (·.size)=aN n
class Ap(P:aT)(t:ab)(n:ay ab):Prop where out:(P.info? t).map (·.bytes)=aN n
class TZ(P:aT)(t:ab)(zs:ay (Y aR)):Prop where out:((P.info? t).bind (·.zero)).map (·.cells.toList)=aN zs
def ax5:TypeDesc->ai
 |.struct _=>aP
 |.array _ _=>aP
 |_=>aQ
class TA(P:aT)(t:ab)(g:ay ai):Prop where out:(P.underlying t).map ax5=aN g
class TF(P:aT)(s i:ab)(off sz:ay ab)(ag:ay ai):Prop where
 out:∃fs f,P.underlying s=aN (.struct fs)/\fs[i]?=aN f/\f.offset=off/\(P.info? f.type).map (·.size)=aN sz/\sz≠0/\
  (P.underlying f.type).map ax5=aN ag
class uw(P:aT)(s:ab)(l:ay (Y (ab×ab))):Prop where
 out:∃fs:ar Field,P.underlying s=aN (.struct fs)/\fs.toList.map (λf=>(f.offset,(P.info? f.type).map (·.size)))=l.map fun(a,b)=>(a,aN b)
class CF(P:aT)(f:ab):Prop where out:∀args w,(callFunc f args).run P w=.ok (.enter f args) w
class FR(P:aT)(f:ab)(rs:ay (Y ResultVar)):Prop where out:∃fn,P.funcs[f]?=aN fn/\fn.results.toList=rs
def Ky(fn:Func):Code:=fn.body.getD .skip
class FC(P:aT)(f:ab)(n:ay ab)(c:ay Code):Prop where out:∃fn,P.funcs[f]?=aN fn/\fn.ntmps=n/\fn.body=aN c
section
variable {P:aT}{w:aV}
theorem cI{d:TypeDesc}(h:P.underlying t=aN d):(underlying t).run P w=.ok d w:=run_underlying h w
theorem Fh{i:TypeInfo}(h:P.info? t=aN i):(typeInfo t).run P w=.ok i w:=by
 simp[typeInfo,h]
theorem jR(h:(P.info? t).map (·.size)=aN n):(sizeOf t).run P w=.ok n w:=by
 obtain⟨i,hi,rfl⟩:=cz.1 h;simp[sizeOf,Fh hi]
theorem wg{zs:Y aR}(h:((P.info? t).bind (·.zero)).map (·.cells.toList)=aN zs):∃z,(zeroValue t).run P w=.ok z w/\z.cells=zs.toArray:=by
 obtain⟨z,hz,rfl⟩:=cz.1 h;obtain⟨i,hi,hz⟩:=Option.bind_eq_some_iff.1 hz;exact⟨z,by simp[zeroValue,Fh hi,hz],by simp⟩
theorem jZ{g:ai}(h:(P.underlying t).map ax5=aN g):(isAgg t).run P w=.ok g w:=by
 obtain⟨d,hd,rfl⟩:=cz.1 h;simp only[isAgg,cb,cI hd,bJ];cases d<;>rfl
end
def bx(b:ab)(ty:TypeId)(cs:Y aR):bG:=pt b (.cells cs.toArray ty (0,0))
class FB(H:Y bG)(b:ab)(ty:ay TypeId)(cs:ay (Y aR))(rest:ay (Y bG)):Prop where out:bS H (bx b ty cs::rest)
instance FB.here(b:ab)(ty:TypeId)(cs:Y aR)(H:Y bG):FB (bx b ty cs::H) b ty cs H:=⟨bS.refl _⟩
instance(priority:=low) FB.there(p:bG)(H:Y bG)(b:ab)(ty:TypeId)(cs:Y aR)(rest:Y bG)[h:FB H b ty cs rest]:FB (p::H) b ty cs (p::rest):=
 ⟨(bS.cons p h.out).trans (eo _ _ _)⟩
theorem Sat.cell{O:de}{H:Y bG}{w:aV}{rest:Y bG}(h:Sat O H w)(hf:bS H (bx b ty cs::rest))(hi:cs[i]?=aN v):
 w.cell? ⟨b,i,aO⟩=aN v:=by
 have:=fF (h.dE hf)
 grind [gl]
def cl:aR->ah (Y aR)
 |.agg ⟨l⟩=>aN l
 |.tuple _=>aO
 |.bool x=>aN [.bool x]
 |.int k n=>aN [.int k n]
 |.float k n=>aN [.float k n]
 |.complex k n m=>aN [.complex k n m]
 |.string s=>aN [.string s]
 |.pointer a=>aN [.pointer a]
 |.slice a n c=>aN [.slice a n c]
 |.map r=>aN [.map r]
 |.chan r=>aN [.chan r]
 |.func f a c=>aN [.func f a c]
 |.nilFunc=>aN [.nilFunc]
 |.iface t v=>aN [.iface t v]
 |.nilIface=>aN [.nilIface]
theorem S8(h:cl v=aN l):v.cells=l.toArray:=by
 unfold cl at h;split at h<;>cases h<;>rfl
def tk:ab->Y aR->ah (Y aR)
 |0,_=>aN []
 |_+1,[]=>aO
 |n+1,v::r=>match tk n r with
  |some l=>aN (v::l)
  |none=>aO
def Mw:ab->ab->Y aR->ah (Y aR)
 |0,n,l=>tk n l
 |_+1,_,[]=>aO
 |i+1,n,_::r=>Mw i n r
theorem aT7:∀{n:ab} {l r:Y aR},tk n l=aN r->r.length=n/\∀(j:ab) (v:aR),r[j]?=aN v->l[j]?=aN v
 |0,l,r,h=>by cases h;grind
 |n+1,[],r,h=>by cases h
 |n+1,x::l,r,h=>by
  simp only[tk]at h;split at h
  ·rename_i l' hl;cases h;obtain⟨h1,h2⟩:=aT7 hl;refine⟨by simp[h1],?_⟩;intro j v hj;cases j with
   |zero=>simpa using hj
   |succ j=>simpa using h2 j v (by simpa using hj)
  ·cases h
theorem Er:∀{i n:ab} {l r:Y aR},Mw i n l=aN r->r.length=n/\∀(j:ab) (v:aR),r[j]?=aN v->l[i+j]?=aN v
 |0,n,l,r,h=>by simpa using aT7 h
 |i+1,n,[],r,h=>by cases h
 |i+1,n,x::l,r,h=>by
  obtain⟨h1,h2⟩:=Er (i:=i) (n:=n) (l:=l) (r:=r) h;refine⟨h1,λj v hj=>?_⟩;have:=h2 j v hj;rw[show i+1+j=(i+j)+1 from by omega];simpa using this
def ov:Y aR->Y aR->ah (Y aR)
 |l,[]=>aN l
 |[],_::_=>aO
 |_::l,v::r=>match ov l r with
  |some m=>aN (v::m)
  |none=>aO
def H':ab->Y aR->Y aR->ah (Y aR)
 |0,l,r=>ov l r
 |_+1,[],_=>aO
 |i+1,x::l,r=>match H' i l r with
  |some m=>aN (x::m)
  |none=>aO
theorem aT8:∀{l r m:Y aR},ov l r=aN m->r.length<=l.length/\m=r++l.drop r.length
 |l,[],m,h=>by cases l<;>cases h<;>simp
 |[],_::_,m,h=>by cases h
 |x::l,v::r,m,h=>by
  simp only[ov]at h;split at h
  ·rename_i m' hm
   cases h
   obtain⟨h1,h2⟩:=aT8 hm
   grind
  ·cases h
theorem Kz:∀{i:ab} {l r m:Y aR},H' i l r=aN m->i+r.length<=l.length/\m=l.take i++r++l.drop (i+r.length)
 |0,l,r,m,h=>by simpa using aT8 h
 |i+1,[],r,m,h=>by cases h
 |i+1,x::l,r,m,h=>by
  simp only[H']at h;split at h
  ·rename_i m' hm
   cases h
   obtain⟨h1,h2⟩:=Kz hm
   grind
  ·cases h
def nY:Y aR->ai
 |[]=>aP
 |v::r=>match v with
  |.agg _=>aQ
  |.tuple _=>aQ
  |_=>nY r
theorem rD:∀{l:Y aR},nY l=aP->∀v∈l,v.oneCell'=aP
 |[],_,v,h=>by cases h
 |x::r,h,v,hv=>by
  simp only[nY]at h;split at h
  ·cases h
  ·cases h
  ·rcases cW.1 hv with rfl|hv
   ·cases v<;>simp_all[Value.oneCell']
   ·exact rD h v hv
section
variable {P:aT}{w:aV}{O:de}{H rest:Y bG}
theorem Df(h:Sat O H w)(hf:bS H (bx b ty cs::rest))[ht:TA P t aQ](hi:cs[i]?=aN v):
 (jP t (.pointer (aN ⟨b,i,aO⟩))).run P w=.ok v w:=by
 have hg:=jZ (P:=P) (w:=w) ht.out
 simp[jP,gh,loadVar,hg,Sat.cell h hf hi]
theorem addr_add(b i j:ab):(⟨b,i,aO⟩:aX).add j=⟨b,i+j,aO⟩:=by
 grind [Addr.add]
theorem C8(h:Sat O H w)(hf:bS H (bx b ty cs::rest))[ht:TA P t aP][hz:jH P t n](hi:Mw i n cs=aN l):
 (jP t (.pointer (aN ⟨b,i,aO⟩))).run P w=.ok (.agg l.toArray) w:=by
 have hg:=jZ (P:=P) (w:=w) ht.out
 obtain⟨h3,h4⟩:=Er hi
 have hl:=run_loadCells_list (P:=P) w ⟨b,i,aO⟩ l (λj v hj=>by rw[addr_add];exact Sat.cell h hf (h4 j v hj))
 rw[h3]at hl
 simp[jP,gh,loadVar,hg,jR hz.out,hl]
theorem Sat.store{LY:Y aR}(h:Sat O H w)(hf:bS H (bx b ty cs::rest))[hz:jH P t n](hv:cl v=aN l)(hl:l.length=n)(ho:nY l=aP)(hi:H' i cs l=aN LY):
 ∃w',(Instr.storeAt t (.pointer (aN ⟨b,i,aO⟩)) v).run P w=.ok () w'/\Sat O (bx b ty LY::rest) w':=by
 obtain⟨h1,h2⟩:=Kz hi
 have hs:=h.dE hf
 have hb:=fF hs
 have ir:=run_storeCells_at P b i ty l 0 cs.toArray w hb bw (rD ho)
 have hc:=S8 hv
 refine⟨w.setRow b LY.toArray,?_,?_⟩
 ·have zW:v.cells.size=n:=bQ
  simp only[Instr.storeAt,gh,storeVar,cb,db,bJ,jR hz.out,zW,ne_eq,not_true_eq_false,aI]
  grind
 ·refine Sat.put (y:=.cells LY.toArray ty (0,0)) hs ⟨U,U,U,by simp[World.setRow],λ_=>bz _⟩ ?_ ?_;all_goals grind [World.setRow]
end
end
variable{O:de}{H:Y bG}{b:bc}{R:aZ->Y bG->Prop}{k:Kt}{N d ty:ab}{ds:Y Deferred}{ops:ar aW}{pos:aC}{af:ar Edge}{g:ah (ab×ai)}{E:Env}{cc:ah (ar aW×Y aW)}{w:aV}{G:dA}{α:Type}
section
variable{x y:aY}{kk k2 k1:IntKind}{t sz n e t' f bl o bt Di off s j b' c2:ab}{v:aR}{l zs cs xs:Y aR}{c:ah (ar aW×Y aW)}{rs:Y ResultVar}{a:ah aX}{m:ae}{vs us:Y (ab×aR)}{Hs' A F rr:Y bG}{Q:aR->Y bG->Prop}{parts:Y (ab×aY)}{op:BinOp}{sU:ar TypeId}{high low:ah aY}{p:Hp->Prop}{cur:ar aR}{r:Hp}{P:aT}
section
variable{P:aT}{vs:Y (ab×aR)}{rest:Y aW}
theorem bU{a:Act}(h:ik ⟨N,vs,ds⟩ a)(e:fI vs x=aN v):a.eval x=v:=tQ h (by rw[<-uC];exact e)
theorem bo3{c:ab}[ht:qQ P t e](hw:bO ops vs ⟨aN d,.call ⟨.builtin .len,#[x],#[t]⟩,ty,pos,af,g⟩=aN aP)(hn:bM d N=aP)(hx:fI vs x=aN (.slice a n c))(h:X P b O (aN (ops,rest)) k ⟨N,(d,.int .i64 n)::vs,ds⟩ H R):X P b O (aN (ops,⟨aN d,.call ⟨.builtin .len,#[x],#[t]⟩,ty,pos,af,g⟩::rest)) k ⟨N,vs,ds⟩ H R:=
 X.val U hn hw (λa w he _=>by
  have:=bU he hx;simp[aU,resolve,invoke,builtin,Builtin.len_,this,cI ht.out,goInt]) h
theorem X.add{n:ae}(hw:bO ops vs ⟨aN d,.binOp .add t x y t',ty,pos,af,g⟩=aN aP)(hn:bM d N=aP)(hx:fI vs x=aN (.int .i64 m))(hy:fI vs y=aN (.int .i64 n))(h1: -9223372036854775808<=m+n)(h2:m+n<=9223372036854775807)(h:X P b O (aN (ops,rest)) k ⟨N,(d,.int .i64 (m+n))::vs,ds⟩ H R):X P b O (aN (ops,⟨aN d,.binOp .add t x y t',ty,pos,af,g⟩::rest)) k ⟨N,vs,ds⟩ H R:=
 X.val U hn hw (λa w he _=>by
  have e1:=bU he hx;have e2:=bU he hy;have e3:=IntWalk.i64_in (m+n) ⟨h1,h2⟩;simp[aU,e1,e2,eqGuard,binOp,Op.intArith,e3]) h
theorem X.sub{n:ae}(hw:bO ops vs ⟨aN d,.binOp .sub t x y t',ty,pos,af,g⟩=aN aP)(hn:bM d N=aP)(hx:fI vs x=aN (.int .i64 m))(hy:fI vs y=aN (.int .i64 n))(h1: -9223372036854775808<=m - n)(h2:m - n<=9223372036854775807)(h:X P b O (aN (ops,rest)) k ⟨N,(d,.int .i64 (m - n))::vs,ds⟩ H R):X P b O (aN (ops,⟨aN d,.binOp .sub t x y t',ty,pos,af,g⟩::rest)) k ⟨N,vs,ds⟩ H R:=
 X.val U hn hw (λa w he _=>by
  have e1:=bU he hx;have e2:=bU he hy;have e3:=IntWalk.i64_in (m - n) ⟨h1,h2⟩;simp[aU,e1,e2,eqGuard,binOp,Op.intArith,e3]) h
def arith(op:BinOp)(k:IntKind)(m n:ae):ah aR:=
 match op with
 |.add=>aN (.int k (k.wrap (m+n)))
 |.sub=>aN (.int k (k.wrap (m - n)))
 |.mul=>aN (.int k (k.wrap (m*n)))
 |_=>aO
theorem IF{n:ae}(hw:bO ops vs ⟨aN d,.binOp op t x y t',ty,pos,af,g⟩=aN aP)(hn:bM d N=aP)(hx:fI vs x=aN (.int kk m))(hy:fI vs y=aN (.int kk n))(hv:arith op kk m n=aN v)(h:X P b O (aN (ops,rest)) k ⟨N,(d,v)::vs,ds⟩ H R):X P b O (aN (ops,⟨aN d,.binOp op t x y t',ty,pos,af,g⟩::rest)) k ⟨N,vs,ds⟩ H R:=
 X.val U hn hw (λa w he _=>by
  have e1:=bU he hx;have e2:=bU he hy;cases op<;>simp only[arith]at hv<;>try(cases hv;done)
  all_goals cases hv;simp[aU,e1,e2,eqGuard,binOp,Op.intArith]) h
theorem bl7{n:ae}(hw:bO ops vs ⟨aN d,.binOp op t x y t',ty,pos,af,g⟩=aN aP)(hn:bM d N=aP)(hx:fI vs x=aN (.int kk m))(hy:fI vs y=aN (.int kk n))(hv:arith op kk m n=aN v)(_:decide (kk=.i64)=aQ)(h:X P b O (aN (ops,rest)) k ⟨N,(d,v)::vs,ds⟩ H R):X P b O (aN (ops,⟨aN d,.binOp op t x y t',ty,pos,af,g⟩::rest)) k ⟨N,vs,ds⟩ H R:=IF hw hn hx hy hv h
def shift(op:BinOp)(k:IntKind)(m n:ae):ah aR:=
 match op with
 |.shl=>aN (.int k (k.wrap (m*2^(min n.toNat k.bits))))
 |.shr=>aN (.int k (m.fdiv (2^(min n.toNat k.bits))))
 |_=>aO
theorem SQ{n:ae}(hw:bO ops vs ⟨aN d,.binOp op t x y t',ty,pos,af,g⟩=aN aP)(hn:bM d N=aP)(hx:fI vs x=aN (.int kk m))(hy:fI vs y=aN (.int k2 n))(hv:shift op kk m n=aN v)(h0:0<=n)(h:X P b O (aN (ops,rest)) k ⟨N,(d,v)::vs,ds⟩ H R):X P b O (aN (ops,⟨aN d,.binOp op t x y t',ty,pos,af,g⟩::rest)) k ⟨N,vs,ds⟩ H R:=
 X.val U hn hw (λa w he _=>by
  have e1:=bU he hx;have e2:=bU he hy;have h0':¬n<0:=bw;cases op<;>simp only[shift]at hv<;>try(cases hv;done)
  all_goals cases hv;simp[aU,e1,e2,eqGuard,binOp,Op.shift,h0']) h
theorem X.quo{n:ae}(hw:bO ops vs ⟨aN d,.binOp .quo t x y t',ty,pos,af,g⟩=aN aP)(hn:bM d N=aP)(hx:fI vs x=aN (.int kk m))(hy:fI vs y=aN (.int kk n))(h0:n≠0)(h:X P b O (aN (ops,rest)) k ⟨N,(d,.int kk (kk.wrap (m.tdiv n)))::vs,ds⟩ H R):X P b O (aN (ops,⟨aN d,.binOp .quo t x y t',ty,pos,af,g⟩::rest)) k ⟨N,vs,ds⟩ H R:=
 X.val U hn hw (λa w he _=>by
  have e1:=bU he hx;have e2:=bU he hy;simp[aU,e1,e2,eqGuard,binOp,Op.intDiv,h0]) h
theorem X.rem{n:ae}(hw:bO ops vs ⟨aN d,.binOp .rem t x y t',ty,pos,af,g⟩=aN aP)(hn:bM d N=aP)(hx:fI vs x=aN (.int kk m))(hy:fI vs y=aN (.int kk n))(h0:n≠0)(h:X P b O (aN (ops,rest)) k ⟨N,(d,.int kk (m.tmod n))::vs,ds⟩ H R):X P b O (aN (ops,⟨aN d,.binOp .rem t x y t',ty,pos,af,g⟩::rest)) k ⟨N,vs,ds⟩ H R:=
 X.val U hn hw (λa w he _=>by
  have e1:=bU he hx;have e2:=bU he hy;simp[aU,e1,e2,eqGuard,binOp,Op.intDiv,h0]) h
def un1(op:UnOp)(k:IntKind)(n:ae):ah aR:=
 match op with
 |.neg=>aN (.int k (k.wrap (0 - n)))
 |.xor=>aN (.int k (k.wrap (BitVec.ofInt k.bits (if k.signed then -1 else k.max)^^^BitVec.ofInt k.bits n).toNat))
 |_=>aO
theorem bT2{op:UnOp}(hw:bO ops vs ⟨aN d,.unOp op t x,ty,pos,af,g⟩=aN aP)(hn:bM d N=aP)(hx:fI vs x=aN (.int kk m))(hv:un1 op kk m=aN v)(h:X P b O (aN (ops,rest)) k ⟨N,(d,v)::vs,ds⟩ H R):X P b O (aN (ops,⟨aN d,.unOp op t x,ty,pos,af,g⟩::rest)) k ⟨N,vs,ds⟩ H R:=
 X.val U hn hw (λa w he _=>by
  have e1:=bU he hx;cases op<;>simp only[un1]at hv<;>try(cases hv;done)
  all_goals cases hv;simp[aU,e1,Op.unary,Op.intArith,Op.intBits]) h
theorem bo4[hs:vA P s k1][ht:vA P t k2](hw:bO ops vs ⟨aN d,.convert s t x,ty,pos,af,g⟩=aN aP)(hn:bM d N=aP)(hx:fI vs x=aN (.int kk m))(h:X P b O (aN (ops,rest)) k ⟨N,(d,.int k2 (k2.wrap m))::vs,ds⟩ H R):X P b O (aN (ops,⟨aN d,.convert s t x,ty,pos,af,g⟩::rest)) k ⟨N,vs,ds⟩ H R:=
 X.val U hn hw (λa w he _=>by
  have e1:=bU he hx;simp[aU,e1,convert,cI hs.out,cI ht.out,Conv.intToInt]) h
theorem aw3{c:aY}(hw:bO ops vs ⟨aN d,.pick c x y,ty,pos,af,g⟩=aN aP)(hn:bM d N=aP)(hc:fI vs c=aN (.bool aP))(hx:fI vs x=aN v)(h:X P b O (aN (ops,rest)) k ⟨N,(d,v)::vs,ds⟩ H R):X P b O (aN (ops,⟨aN d,.pick c x y,ty,pos,af,g⟩::rest)) k ⟨N,vs,ds⟩ H R:=
 X.val U hn hw (λa w he _=>by
  have e1:=bU he hc;have e2:=bU he hx;simp[aU,e1,e2,asBool]) h
theorem aw0{c:aY}(hw:bO ops vs ⟨aN d,.pick c x y,ty,pos,af,g⟩=aN aP)(hn:bM d N=aP)(hc:fI vs c=aN (.bool aQ))(hx:fI vs y=aN v)(h:X P b O (aN (ops,rest)) k ⟨N,(d,v)::vs,ds⟩ H R):X P b O (aN (ops,⟨aN d,.pick c x y,ty,pos,af,g⟩::rest)) k ⟨N,vs,ds⟩ H R:=
 X.val U hn hw (λa w he _=>by
  have e1:=bU he hc;have e2:=bU he hx;simp[aU,e1,e2,asBool]) h
theorem aw6{op:Op}(hw:bO ops vs ⟨aN d,op,ty,pos,af,g⟩=aN aQ)(hn:bM d N=aP)
 (h:X P b O (aN (ops,rest)) k ⟨N,(d,undef)::vs,ds⟩ H R):X P b O (aN (ops,⟨aN d,op,ty,pos,af,g⟩::rest)) k ⟨N,vs,ds⟩ H R:=bn1 U hn hw h
theorem X'{op:Op}(hw:bO ops vs ⟨aN d,op,ty,pos,af,g⟩=aN aP)(hn:bM d N=aP)(hv:pop vs op=aN v)(h:X P b O (aN (ops,rest)) k ⟨N,(d,v)::vs,ds⟩ H R):X P b O (aN (ops,⟨aN d,op,ty,pos,af,g⟩::rest)) k ⟨N,vs,ds⟩ H R:=
 X.val U hn hw (λ_ w he _=>Yw (o:=⟨aN d,op,ty,pos,af,g⟩) he hv w) h
theorem bo0{i:ab}[hf:TF P s i off sz aP](hw:bO ops vs ⟨aN d,.field s x i,ty,pos,af,g⟩=aN aP)(hn:bM d N=aP)(hx:fI vs x=aN (.agg cs.toArray))(hl:Mw off sz cs=aN l)(h:X P b O (aN (ops,rest)) k ⟨N,(d,.agg l.toArray)::vs,ds⟩ H R):X P b O (aN (ops,⟨aN d,.field s x i,ty,pos,af,g⟩::rest)) k ⟨N,vs,ds⟩ H R:=
 X.val U hn hw (λa w he _=>by
  have e1:=bU he hx;obtain⟨fs,f,h1,h2,h3,h4,_,h6⟩:=hf.out;obtain⟨h7,h8⟩:=Er hl;have e2:(cs.drop off).take sz=l:=by
   apply fq
   grind
  subst h3;simp[aU,e1,Instr.field,cI h1,h2,asAgg,part,jZ h6,jR h4,e2]) h
theorem bB3{i:ab}[hf:TF P s i off sz aQ](hw:bO ops vs ⟨aN d,.field s x i,ty,pos,af,g⟩=aN aP)(hn:bM d N=aP)(hx:fI vs x=aN (.agg cs.toArray))(hl:cs[off]?=aN v)(h:X P b O (aN (ops,rest)) k ⟨N,(d,v)::vs,ds⟩ H R):X P b O (aN (ops,⟨aN d,.field s x i,ty,pos,af,g⟩::rest)) k ⟨N,vs,ds⟩ H R:=
 X.val U hn hw (λa w he _=>by
  have e1:=bU he hx;obtain⟨fs,f,h1,h2,h3,h4,_,h6⟩:=hf.out;subst h3;simp[aU,e1,Instr.field,cI h1,h2,asAgg,part,jZ h6,hl]) h
theorem X.fa{i:ab}{ag:ai}[hf:TF P s i off sz ag](hw:bO ops vs ⟨aN d,.fieldAddr s x i,ty,pos,af,g⟩=aN aP)(hn:bM d N=aP)(hx:fI vs x=aN (.pointer (aN ⟨bl,o,aO⟩)))(h:X P b O (aN (ops,rest)) k ⟨N,(d,.pointer (aN ⟨bl,o+off,aO⟩))::vs,ds⟩ H R):X P b O (aN (ops,⟨aN d,.fieldAddr s x i,ty,pos,af,g⟩::rest)) k ⟨N,vs,ds⟩ H R:=
 X.val U hn hw (λa w he _=>by
  have e1:=bU he hx;obtain⟨fs,f,h1,h2,h3,h4,h5,h6⟩:=hf.out;subst h3;simp[aU,e1,Instr.fieldAt,cI h1,h2,gh,fieldPlace,jR h4,h5,addr_add]) h
theorem bl5{rs:Y bG}[ht:TA P t aQ](hw:bO ops vs ⟨aN d,.load t x,ty,pos,af,g⟩=aN aP)(hn:bM d N=aP)(hx:fI vs x=aN (.pointer (aN ⟨bl,o,aO⟩)))[hf:FB H bl bt cs rs](hv:cs[o]?=aN v)(h:X P b O (aN (ops,rest)) k ⟨N,(d,v)::vs,ds⟩ H R):X P b O (aN (ops,⟨aN d,.load t x,ty,pos,af,g⟩::rest)) k ⟨N,vs,ds⟩ H R:=
 X.val U hn hw (λa w he hs=>by
  have e1:=bU he hx;simp[aU,e1,Df (t:=t) hs hf.out hv]) h
theorem bB1{rs:Y bG}[ht:TA P t aP][hz:jH P t n](hw:bO ops vs ⟨aN d,.load t x,ty,pos,af,g⟩=aN aP)(hn:bM d N=aP)(hx:fI vs x=aN (.pointer (aN ⟨bl,o,aO⟩)))[hf:FB H bl bt cs rs](hv:Mw o n cs=aN l)(h:X P b O (aN (ops,rest)) k ⟨N,(d,.agg l.toArray)::vs,ds⟩ H R):X P b O (aN (ops,⟨aN d,.load t x,ty,pos,af,g⟩::rest)) k ⟨N,vs,ds⟩ H R:=
 X.val U hn hw (λa w he hs=>by
  have e1:=bU he hx;simp[aU,e1,C8 (t:=t) (n:=n) hs hf.out hv]) h
theorem X.st[hk:Kt.pC k]{LY:Y aR}{rs:Y bG}[hz:jH P t n](hw:bO ops vs ⟨aO,.store t x y,ty,pos,af,g⟩=aN aP)(hx:fI vs x=aN (.pointer (aN ⟨bl,o,aO⟩)))(hy:fI vs y=aN v)[hf:FB H bl bt cs rs](hl:cl v=aN l)(h1:l.length=n)(h2:nY l=aP)(h3:H' o cs l=aN LY)(h:X P b O (aN (ops,rest)) k ⟨N,vs,ds⟩ (bx bl bt LY::rs) R):X P b O (aN (ops,⟨aO,.store t x y,ty,pos,af,g⟩::rest)) k ⟨N,vs,ds⟩ H R:=
 Mp U hw (λa w he hs=>by
  have e1:=bU he hx;have e2:=bU he hy;obtain⟨w',h4,h5⟩:=Sat.store (P:=P) (t:=t) (n:=n) hs hf.out hl h1 h2 h3;exact⟨w',by simp[aU,e1,e2,h4],h5⟩) h
theorem kq[hk:Kt.pC k][hz:TZ P t zs](hw:bO ops vs ⟨aN d,.alloc t,ty,pos,af,g⟩=aN aP)(hn:bM d N=aP)(h:∀bl,X P b O (aN (ops,rest)) k ⟨N,(d,.pointer (aN ⟨bl,0,aO⟩))::vs,ds⟩ (bx bl t zs::H) R):X P b O (aN (ops,⟨aN d,.alloc t,ty,pos,af,g⟩::rest)) k ⟨N,vs,ds⟩ H R:=
 mN (v:=λbl=>.pointer (aN ⟨bl,0,aO⟩)) (Hs':=λbl=>bx bl t zs::H) U hn hw (λa w he hs=>by
  obtain⟨z,h1,h2⟩:=wg (P:=P) (w:=w) hz.out;refine⟨w.heap.size,_,?_,hs.alloc (.cells zs.toArray t (0,0))⟩;simp[aU,Instr.alloc,h1,newVar,newRow,h2]) h
theorem X.box[hk:Kt.pC k](hw:bO ops vs ⟨aN d,.box t x,ty,pos,af,g⟩=aN aP)(hn:bM d N=aP)(hx:fI vs x=aN v)(hl:cl v=aN l)(h:∀bl,X P b O (aN (ops,rest)) k ⟨N,(d,.pointer (aN ⟨bl,0,aO⟩))::vs,ds⟩ (bx bl t l::H) R):X P b O (aN (ops,⟨aN d,.box t x,ty,pos,af,g⟩::rest)) k ⟨N,vs,ds⟩ H R:=
 mN (v:=λbl=>.pointer (aN ⟨bl,0,aO⟩)) (Hs':=λbl=>bx bl t l::H) U hn hw (λa w he hs=>by
  have e1:=bU he hx;have e2:=S8 hl;refine⟨w.heap.size,_,?_,hs.alloc (.cells l.toArray t (0,0))⟩;simp[aU,Instr.box,e1,newVar,newRow,e2]) h
def dC(Q:aR->Y bG->Prop):aZ->Y bG->Prop
 |.returned v,B=>Q v B
 |_,_=>False
theorem Aj[hk:Kt.pC k]{G:dA}(hG:G.on O)(uD:CF P f){c:Call}{args:ar aR}{R':aZ->Y bG->Prop}(hT:TR P G f args A R')(hw:bO ops vs ⟨aN d,.call c,ty,pos,af,g⟩=aN aP)(hn:bM d N=aP)(hr:∀a,ik ⟨N,vs,ds⟩ a->∀w,(do let d<-resolve a.eval c ty;invoke d.target d.args).run P w=(callFunc f args).run P w)(hA:bS H (A++F))(hp:∀ch B,R' (.panicked ch) B->∀a w,ik ⟨N,vs,ds⟩ a->Sat O (B++F) w->QK P b O k R (.panic ch) a w)(ho:∀B,¬R' .outgrown B)(h:∀v B,R' (.returned v) B->X P b O (aN (ops,rest)) k ⟨N,(d,v)::vs,ds⟩ (B++F) R):
 X P b O (aN (ops,⟨aN d,.call c,ty,pos,af,g⟩::rest)) k ⟨N,vs,ds⟩ H R:=by
 intro hb a w he hs
 obtain⟨β',hβ,Ao,sT⟩:=mo (hs.dE hA)
 have hc:=hT β' w (G.mono hβ hG) Ao
 have hex:(aU a.eval ⟨aN d,.call c,ty,pos,af,g⟩).run P w=.ok (.enter f args) w:=by
  have:=hr a he w;simp only[aU];rw[this,uD.out]
 refine WL.dE (lU (E:=⟨N,vs,ds⟩) he hw) hex hc ?_ ?_ ?_
 ·exact aT9
 ·rintro ch w' ⟨B,hB,Fi⟩
  grind
 ·rintro w' ⟨B,hB,Fi⟩
  grind
theorem cM[hk:Kt.pC k]{G:dA}(hG:G.on O){xs:Y aY}{us:Y aR}(hT:TR P G f us.toArray A (dC Q))[uD:CF P f](hw:bO ops vs ⟨aN d,.call ⟨.value (.func f),xs.toArray,sU⟩,ty,pos,af,g⟩=aN aP)(hn:bM d N=aP)(hx:oO vs xs=aN us)(hA:bS H (A++F))(h:∀v B,Q v B->X P b O (aN (ops,rest)) k ⟨N,(d,v)::vs,ds⟩ (B++F) R):
 X P b O (aN (ops,⟨aN d,.call ⟨.value (.func f),xs.toArray,sU⟩,ty,pos,af,g⟩::rest)) k ⟨N,vs,ds⟩ H R:=
 Aj hG uD hT hw hn (λa he w=>by
  have h1:=mg he hx
  have h2:xs.toArray.map a.eval=us.toArray:=bQ
  have h3:a.eval (.func f)=.func (.func f) #[] #[]:=U
  grind [resolve,Deferred.ofValue,invoke]) hA (λ_ _ hq=>hq.elim) (λ_ hq=>hq) h
theorem jd[hk:Kt.pC k]{G:dA}(hG:G.on O){xs:Y aY}{us fst cap:Y aR}(hT:TR P G f (fst++us++cap).toArray A (dC Q))[uD:CF P f](hw:bO ops vs ⟨aN d,.call ⟨.value (.tmp t),xs.toArray,sU⟩,ty,pos,af,g⟩=aN aP)(hn:bM d N=aP)(ht:lk vs t=aN (.func (.func f) fst.toArray cap.toArray))(hx:oO vs xs=aN us)(hA:bS H (A++F))(h:∀v B,Q v B->X P b O (aN (ops,rest)) k ⟨N,(d,v)::vs,ds⟩ (B++F) R):
 X P b O (aN (ops,⟨aN d,.call ⟨.value (.tmp t),xs.toArray,sU⟩,ty,pos,af,g⟩::rest)) k ⟨N,vs,ds⟩ H R:=
 Aj hG uD hT hw hn (λa he w=>by
  have h1:=mg he hx
  have h2:xs.toArray.map a.eval=us.toArray:=bQ
  have h3:a.eval (.tmp t)=.func (.func f) fst.toArray cap.toArray:=bU (x:=.tmp t) he ht
  grind [resolve,Deferred.ofValue,invoke]) hA (λ_ _ hq=>hq.elim) (λ_ hq=>hq) h
theorem X.exit{id:ab}{k k':Y Item}(hk:exitTo id k=aN k')(h:X P b O aO (.it k') E H R):X P b O aO (.it (.code (.exit id)::k)) E H R:=
 λhb=>SR.exit hk (h hb)
theorem X.cond{k:Y Item}{c:aY}{x y:Code}{t:ai}(hc:fI vs c=aN (.bool t))(h1:t=aP->X P b O aO (.it (.code x::k)) ⟨N,vs,ds⟩ H R)(h2:t=aQ->X P b O aO (.it (.code y::k)) ⟨N,vs,ds⟩ H R):
 X P b O aO (.it (.code (.cond c x y)::k)) ⟨N,vs,ds⟩ H R:=
 λhb=>SR.cond (E:=⟨N,vs,ds⟩) (by rw[<-uC];exact hc) (λh=>h1 h hb) (λh=>h2 h hb)
theorem Kr{k:Y Item}{c:aY}{x y:Code}(hc:fI vs c=aN (.bool aP))(h1:X P b O aO (.it (.code x::k)) ⟨N,vs,ds⟩ H R):X P b O aO (.it (.code (.cond c x y)::k)) ⟨N,vs,ds⟩ H R:=
 X.cond hc (λ_=>h1) (λh=>by cases h)
theorem El{k:Y Item}{c:aY}{x y:Code}(hc:fI vs c=aN (.bool aQ))(h1:X P b O aO (.it (.code y::k)) ⟨N,vs,ds⟩ H R):X P b O aO (.it (.code (.cond c x y)::k)) ⟨N,vs,ds⟩ H R:=
 X.cond hc (λh=>by cases h) (λ_=>h1)
theorem X.less{BP:Y (ab×aR)}(h:X P b O c k ⟨N,BP,ds⟩ Hs' R)(hv:Sub BP vs)(hH:bS H Hs'):X P b O c k ⟨N,vs,ds⟩ H R:=by
 intro hb;have:=h hb;cases c with
 |none=>exact λa w he hs=>this a w (ik.less (E:=⟨N,vs,ds⟩) he U U hv) (hs.dE hH)
 |some c=>exact λa w he hs=>this a w (he.less U U hv) (hs.dE hH)
theorem X.dE(hH:bS H Hs')(h:X P b O c k E Hs' R):X P b O c k E H R:=by
 intro hb;have:=h hb;cases c with
 |none=>exact λa w he hs=>this a w he (hs.dE hH)
 |some c=>exact λa w he hs=>this a w he (hs.dE hH)
theorem X.loop{k:Y Item}{ι:Type}(st:ι->Y (ab×aR)×Y bG)(μ:ι->ab)(i₀:ι){c:Code}
 (h0:Sub (st i₀).1 vs)(hH:bS H (st i₀).2)
 (body:∀i,(∀i',μ i'<μ i->X P b O aO (.it (.inLoop c::k)) ⟨N,(st i').1,ds⟩ (st i').2 R)->X P b O aO (.it (.code c::.inLoop c::k)) ⟨N,(st i).1,ds⟩ (st i).2 R):
 X P b O aO (.it (.code (.loop c)::k)) ⟨N,vs,ds⟩ H R:=
 λhb=>SR.loop (E:=⟨N,vs,ds⟩) st μ i₀ h0 hH λi ih=>body i (λi' vz _=>ih i' vz) hb
def UP(tmps:ar aR):ResultVar->Sem aR
 |.tmp t=>pure (tmps.getD t undef)
 |.cell a t=>do loadVar t (<-asAddr (tmps.getD a undef))
def kK(P:aT)(E:Env)(H:Y bG)(rs:Y ResultVar)(l:Y aR):Prop:=
 ∀O a w,ik E a->Sat O H w->(rs.mapM (UP a.tmps)).run P w=.ok l w
def bo9(vs:Y (ab×aR)):Y ResultVar->ah (Y aR)
 |[]=>aN []
 |.tmp t::r=>match lk vs t with
  |none=>aO
  |some v=>match bo9 vs r with
   |none=>aO
   |some l=>aN (v::l)
 |.cell _ _::_=>aO
theorem kK.nil:kK P E H [] []:=λ_ _ _ _ _=>rfl
theorem kK.tmp(hv:lk E.vs t=aN v)(h:kK P E H rs l):kK P E H (.tmp t::rs) (v::l):=by
 intro O a w he hs;have h1:a.tmps.getD t undef=v:=tQ (x:=.tmp t) he hv;simp only[List.mapM_cons,cb,UP,db,bJ,h O a w he hs,h1]
theorem kK.tmps:∀{rs:Y ResultVar} {l:Y aR},bo9 E.vs rs=aN l->kK P E H rs l
 |[],l,h=>by cases h;exact kK.nil
 |.tmp t::r,l,h=>by
  simp only[bo9]at h;split at h
  ·cases h
  ·rename_i v hv;split at h
   ·cases h
   ·rename_i l' hl;cases h;exact kK.tmp hv (kK.tmps hl)
 |.cell _ _::_,l,h=>by cases h
theorem kK.cell{c:ab}(hc:lk E.vs c=aN (.pointer (aN ⟨bl,o,aO⟩)))[ht:TA P t aQ][hf:FB H bl bt cs rr](hv:cs[o]?=aN v)(h:kK P E H rs l):kK P E H (.cell c t::rs) (v::l):=by
 intro O a w he hs
 have h1:a.tmps.getD c undef=.pointer (aN ⟨bl,o,aO⟩):=tQ (x:=.tmp c) he hc
 have h2:=Df (P:=P) (t:=t) hs hf.out hv
 simp only[jP,gh,cb,db,bJ]at h2
 simp only[List.mapM_cons,cb,UP,asAddr,db,bJ,h O a w he hs,h1,h2]
theorem kK.jf{c:ab}{m:Y aR}(hc:lk E.vs c=aN (.pointer (aN ⟨bl,o,aO⟩)))[ht:TA P t aP][hz:jH P t n][hf:FB H bl bt cs rr](hv:Mw o n cs=aN m)(h:kK P E H rs l):kK P E H (.cell c t::rs) (.agg m.toArray::l):=by
 intro O a w he hs
 have h1:a.tmps.getD c undef=.pointer (aN ⟨bl,o,aO⟩):=tQ (x:=.tmp c) he hc
 have h2:=C8 (P:=P) (t:=t) (n:=n) hs hf.out hv
 simp only[jP,gh,cb,db,bJ]at h2
 simp only[List.mapM_cons,cb,UP,asAddr,db,bJ,h O a w he hs,h1,h2]
def mv:Y aR->aR
 |[v]=>v
 |l=>.tuple l.toArray
theorem oo{fn:Func}{tmps:ar aR}{w:aV}(h:(fn.results.toList.mapM (UP tmps)).run P w=.ok l w):(results fn tmps).run P w=.ok (mv l) w:=by
 have e:results fn tmps=(do let vs<-fn.results.mapM (UP tmps);pure (if h:vs.size=1 then vs[0]else .tuple vs)):=by
  unfold results;congr 1
 rw[e,Array.mapM_eq_mapM_toList];simp only[cb,Sem.run_map,h,bJ,db];congr 1;match l with
 |[]=>simp[mv]
 |[v]=>simp[mv]
 |v::u::r=>simp[mv]
theorem X.ret{k:Y Item}(nA:nL b f)[hf:FR P f rs](hl:kK P ⟨N,vs,[]⟩ H rs l)(h:∃B,R (.returned (mv l)) B/\bS H B):X P b O aO (.it (.code .ret::k)) ⟨N,vs,[]⟩ H R:=by
 intro hb;obtain⟨fn,h1,rfl⟩:=hf.out;obtain⟨B,h2,h3⟩:=h;exact SR.ret (E:=⟨N,vs,[]⟩) nA.ro Yy hb U λa w he hs=>⟨_,oo (hl O a w he hs),⟨B,h2,hs.dE h3⟩⟩
theorem X.fin(nA:nL b f)[hf:FR P f rs](hl:kK P ⟨N,vs,[]⟩ H rs l)(h:∃B,R (.returned (mv l)) B/\bS H B):X P b O aO (.it []) ⟨N,vs,[]⟩ H R:=by
 intro hb;obtain⟨fn,h1,rfl⟩:=hf.out;obtain⟨B,h2,h3⟩:=h;exact SR.fin (E:=⟨N,vs,[]⟩) nA.ro Yy hb U λa w he hs=>⟨_,oo (hl O a w he hs),⟨B,h2,hs.dE h3⟩⟩
def Aq:ab->Y aR->Y (ab×aR)
 |_,[]=>[]
 |i,v::r=>(i,v)::Aq (i+1) r
theorem Mx:∀(l:Y aR) (i:ab),Aq i l=(l.zipIdx i).map fun(v,i)=>(i,v)
 |[],_=>rfl
 |v::r,i=>by simp[Aq,Mx r]
theorem TR.go{G:dA}{c:Code}[hf:FC P f n c]{us:Y aR}(hn:us.length<=n)(h:∀b O,nL b f->G.on O->X P b O aO (.it [.code c]) ⟨n,Aq 0 us,[]⟩ A R):TR P G f us.toArray A R:=by
 obtain⟨fn,h1,rfl,h3⟩:=hf.out
 refine TR.enter h1 h3 (Aq 0 us) (by rw[Mx];exact λ_ _ h=>h) λb O hb1 S9 hG=>?_
 have:=h b O hb1 hG S9
 have e:us.toArray.size+(fn.ntmps - us.toArray.size)=fn.ntmps:=fD
 rw[e]
 exact this
end
structure Rp(α:Type) where
 h:Hp->Y aR->α->Prop
 mono:∀{r r' l x},Hp.le r r'->h r l x->h r' l x
def D4(r:Hp)(b o:ab)(l:Y aR):Prop:=∃cs ty fr,r b=aN (.cells cs ty fr)/\∀(j:ab) (v:aR),l[j]?=aN v->cs[o+j]?=aN v
theorem D4.mono{r':Hp}{b:ab}(hr:Hp.le r r')(h:D4 r b o l):D4 r' b o l:=
 let⟨cs,ty,fr,h1,h2⟩:=h;⟨cs,ty,fr,hr _ _ h1,h2⟩
def xm{α:Type}(R:Rp α)(sz:ab)(a:ah aX)(xs:Y α)(r:Hp):Prop:=
 xs=[]\/∃b o,a=aN ⟨b,o,aO⟩/\∀(i:ab) (x:α),xs[i]?=aN x->∃l,l.length=sz/\D4 r b (o+i*sz) l/\R.h r l x
theorem xm.mono{α:Type}{R:Rp α}{xs:Y α}{r':Hp}(hr:Hp.le r r')(h:xm R sz a xs r):xm R sz a xs r':=by
 rcases h with h|⟨b,o,h1,h2⟩
 ·exact .inl h
 ·exact .inr ⟨b,o,h1,λi x hx=>let⟨l,h3,h4,h5⟩:=h2 i x hx;⟨l,h3,h4.mono hr,R.mono hr h5⟩⟩
def dp{α:Type}(R:Rp α)(sz:ab)(a:ah aX)(xs:Y α):bG:=ro (xm R sz a xs)
def el{α:Type}(R:Rp α)(sz b o:ab)(x:α):bG:=ro (λr=>∃l,l.length=sz/\D4 r b o l/\R.h r l x)
def cy{α:Type}(cC:α->Y aR):Rp α:=⟨λ_ l x=>l=cC x,λ_ h=>h⟩
def gT(x:au):aR:=.int .u8 x.toNat
abbrev RB:Rp au:=cy λx=>[gT x]
class BQ(H:Y bG)(a:ah aX){α:ay Type}(R:ay (Rp α))(sz:ay ab)(xs:ay (Y α)):Prop where out:∃rest,bS H (dp R sz a xs::rest)
instance BQ.here{α:Type}(R:Rp α)(sz:ab)(a:ah aX)(xs:Y α)(H:Y bG):BQ (dp R sz a xs::H) a R sz xs:=⟨H,bS.refl _⟩
instance(priority:=low) BQ.there(p:bG)(H:Y bG){α:Type}(R:Rp α)(sz:ab)(a:ah aX)(xs:Y α)[h:BQ H a R sz xs]:BQ (p::H) a R sz xs:=
 let⟨rest,hr⟩:=h.out;⟨p::rest,(bS.cons p hr).trans (eo _ _ _)⟩
class Fj(H:Y bG)(b:ab){α:ay Type}(R:ay (Rp α))(sz o:ay ab)(x:ay α):Prop where out:∃rest,bS H (el R sz b o x::rest)
instance Fj.here{α:Type}(R:Rp α)(sz b o:ab)(x:α)(H:Y bG):Fj (el R sz b o x::H) b R sz o x:=⟨H,bS.refl _⟩
instance(priority:=low) Fj.there(p:bG)(H:Y bG){α:Type}(R:Rp α)(sz b o:ab)(x:α)[h:Fj H b R sz o x]:Fj (p::H) b R sz o x:=
 let⟨rest,hr⟩:=h.out;⟨p::rest,(bS.cons p hr).trans (eo _ _ _)⟩
theorem js{H rest:Y bG}{q:Hp->Prop}(h:bS H (ro p::rest))(hpq:∀r,p r->q r):bS H (ro q::H):=by
 intro r o hs;obtain⟨o1,o2,_,_,_,hp,_⟩:=h r o hs;exact⟨gI,o,ef _,dQ _,.refl _,λr' pg=>hpq r' (hp r' pg),hs⟩
theorem D4.cell{w:aV}{b:ab}(h:D4 (hp w) b o l)(hv:l[j]?=aN v):w.cell? ⟨b,o+j,aO⟩=aN v:=by
 obtain⟨cs,ty,fr,h1,h2⟩:=h
 have h1':w.heap[b]?=aN (.cells cs ty fr):=h1
 grind [gl]
section
variable{P:aT}{vs:Y (ab×aR)}{rest:Y aW}
theorem dJ[hk:Kt.pC k]{α:Type}{Re:Rp α}{c:ab}{i:aY}{xs:Y α}[ht:qQ P t e][hz:jH P e sz](hw:bO ops vs ⟨aN d,.indexAddr t x i,ty,pos,af,g⟩=aN aP)(hn:bM d N=aP)(hx:fI vs x=aN (.slice a n c))(hi:fI vs i=aN (.int kk m))[hf:BQ H a Re sz xs](hm:m=(j:ae))(hj:j<xs.length)(hl:xs.length=n)(h:∀bl o,X P b O (aN (ops,rest)) k ⟨N,(d,.pointer (aN ⟨bl,o,aO⟩))::vs,ds⟩ (el Re sz bl o xs[j]::H) R):
 X P b O (aN (ops,⟨aN d,.indexAddr t x i,ty,pos,af,g⟩::rest)) k ⟨N,vs,ds⟩ H R:=
 mN (ι:=ab×ab) (v:=λp=>.pointer (aN ⟨p.1,p.2,aO⟩)) (Hs':=λp=>el Re sz p.1 p.2 xs[j]::H) U hn hw (λact w he hs=>by
  have e1:=bU he hx
  have e2:=bU he hi
  obtain⟨rr,hr⟩:=hf.out
  have h1:xm Re sz a xs (hp w):=Sat.ro (hs.dE hr)
  rcases h1 with h1|⟨bl,o,rfl,h2⟩
  ·grind
  ·refine⟨(bl,o+j*sz),w,?_,hs.dE (js hr λr h3=>?_)⟩
   ·subst hm;have h5:j<n:=bw;simp[aU,e1,e2,Instr.indexAt,asIntOf,cI ht.out,jR hz.out,h5,addr_add]
   ·rcases h3 with h3|⟨bl',o',h3,h4⟩
    ·grind
    simp_all) λp=>h p.1 p.2
theorem SZ{α:Type}{cC:α->Y aR}{y:α}[ht:TA P t aQ](hw:bO ops vs ⟨aN d,.load t x,ty,pos,af,g⟩=aN aP)(hn:bM d N=aP)(hx:fI vs x=aN (.pointer (aN ⟨bl,o,aO⟩)))[hf:Fj H bl (cy cC) sz o y](hv:(cC y)[0]?=aN v)(h:X P b O (aN (ops,rest)) k ⟨N,(d,v)::vs,ds⟩ H R):X P b O (aN (ops,⟨aN d,.load t x,ty,pos,af,g⟩::rest)) k ⟨N,vs,ds⟩ H R:=
 X.val U hn hw (λa w he hs=>by
  have e1:=bU he hx;obtain⟨rr,hr⟩:=hf.out;obtain⟨l,h1,h2,h3⟩:=Sat.ro (hs.dE hr);have Qc:l=cC y:=h3;subst Qc;have h4:=h2.cell hv;have hg:=jZ (P:=P) (w:=w) ht.out;simp only[Nat.add_zero]at h4;simp[aU,e1,jP,gh,loadVar,hg,h4]) h
end
theorem wrap_u32(n:ab)(h:n<4294967296):fi.wrap (n:ae)=n:=by
 grind [jm,jX,iM]
theorem wrap_u8(n:ab)(h:n<256):dS.wrap (n:ae)=n:=by
 grind [jm,jX,iM]
theorem wrap_u64(n:ab)(h:n<18446744073709551616):ee.wrap (n:ae)=n:=by
 grind [jm,jX,iM]
theorem ax6(x:av):BitVec.ofInt 32 (x.toNat:ae)=x.toBitVec:=by
 simp_all
theorem KA(x y:av):fi.wrap ((BitVec.ofInt fi.bits (x.toNat:ae)^^^BitVec.ofInt fi.bits (y.toNat:ae)).toNat:ae)=((x^^^y).toNat:ae):=by
 show fi.wrap ((BitVec.ofInt 32 (x.toNat:ae)^^^BitVec.ofInt 32 (y.toNat:ae)).toNat:ae)=_;rw[ax6,ax6,wrap_u32 _ (BitVec.isLt _)];rfl
theorem Ta(x y:av):fi.wrap ((BitVec.ofInt fi.bits (x.toNat:ae)&&&BitVec.ofInt fi.bits (y.toNat:ae)).toNat:ae)=((x&&&y).toNat:ae):=by
 show fi.wrap ((BitVec.ofInt 32 (x.toNat:ae)&&&BitVec.ofInt 32 (y.toNat:ae)).toNat:ae)=_;rw[ax6,ax6,wrap_u32 _ (BitVec.isLt _)];rfl
theorem Tb(x:av):fi.wrap ((BitVec.ofInt fi.bits (if fi.signed=aP then -1 else fi.max)^^^BitVec.ofInt fi.bits (x.toNat:ae)).toNat:ae)=((~~~ x).toNat:ae):=by
 have h:=KA 4294967295 x;have e:(4294967295:av)^^^x= ~~~ x:=by
  apply UInt32.eq_of_toBitVec_eq;show(4294967295#32)^^^x.toBitVec= ~~~ x.toBitVec;rw[show(4294967295#32)=BitVec.allOnes 32 from rfl,BitVec.allOnes_xor]
 rw[e]at h;exact h
theorem My(x:au):fi.wrap (x.toNat:ae)=(x.toUInt32.toNat:ae):=by
 rw[wrap_u32 _ (by have:=x.toNat_lt;omega)];simp
theorem ax7(x:av):fi.wrap (0 - (x.toNat:ae))=((0 - x).toNat:ae):=by
 have h:=x.toNat_lt;simp[jm,jX,iM,UInt32.toNat_neg,UInt32.size];omega
theorem ax8(x:av)(n:ab)(h:n<32):((x.toNat:ae).fdiv (2^(min ((n:ae)).toNat fi.bits)))=((x>>>(iN n)).toNat:ae):=by
 have e:min ((n:ae)).toNat fi.bits=n:=by grind [iM]
 rw[e,Int.fdiv_eq_ediv_of_nonneg _ (Int.pow_nonneg eK)];simp[UInt32.toNat_shiftRight,Nat.shiftRight_eq_div_pow];rw[Nat.mod_eq_of_lt h]
def ax9(e sz:ab)(v:aR)(n:ab)(xs:Y aR)(o:Hp):Prop:=
 xs.length=n*sz/\((v=.slice aO 0 0/\n=0)\/
  ∃g cap cur,v=.slice (aN ⟨g,0,aO⟩) n cap/\o g=aN (.cells cur e (0,0))/\n<=cap/\cap<=maxLen/\cap*sz<=cur.size/\cur.toList.take (n*sz)=xs)
theorem ax9.mono{o o':Hp}(ho:Hp.le o o')(h:ax9 e sz v n xs o):ax9 e sz v n xs o':=by
 obtain⟨h1,h2|⟨g,cap,cur,h2,h3,h4⟩⟩:=h
 ·exact⟨h1,.inl h2⟩
 ·exact⟨h1,.inr ⟨g,cap,cur,h2,ho _ _ h3,h4⟩⟩
def own(e sz:ab)(a:ah aX)(n c:ab)(xs:Y aR):bG:=⟨λ_ o=>ax9 e sz (.slice a n c) n xs o,λ_ ho h=>h.mono ho⟩
def VS(H Hs':Y bG):Prop:=∀O w,Sat O H w->Sat O Hs' w
theorem VS.of{H:Y bG}(h:bS H Hs'):VS H Hs':=λ_ _ hs=>hs.dE h
theorem VS.refl(H:Y bG):VS H H:=λ_ _ h=>h
theorem VS.trans{a b c:Y bG}(h:VS a b)(k:VS b c):VS a c:=λO w e=>k O w (h O w e)
theorem bR4{A':Y bG}(h:VS A A')(F:Y bG):VS (A++F) (A'++F):=λO w hs=>by
 obtain⟨β',_,h1,h2⟩:=mo hs;exact h2 _ _ (h _ _ h1)
theorem Sat.os{O:de}{H:Y bG}{w:aV}(h:Sat O H w):yZ O.q O.w w:=let⟨_,_,_,_,_,h4⟩:=h;h4
theorem B3{O:de}{H:Y bG}{w w':aV}{g:ab}{x y:Obj}(h:Sat O (Sl.pt g x::H) w)(hg:w.grownBy w' (aN g))(hd0:w.drawn<=w'.drawn)(hb:w'.heap[b']?=aN y)(hb':b'=g\/w.heap.size<=b'):
 Sat O (Sl.pt b' y::H) w':=by
 obtain⟨r,o,h0,hf,⟨o1,o2,hd,h1,h2,l6,ir⟩,qK⟩:=h
 have P':o1 g=aN x:=l6
 have hog:o g=aN x:=h1 _ _ P'
 have hle:∀{q:Hp},Hp.le q (hp w)->q g=aO->Hp.le q (hp w'):=by
  intro q hq hqg n z hn
  by_cases e:n=g
  ·grind
  ·have h3:=hq _ _ hn;have h4:=hg.block n (Mt h3) (by simp[e]);exact Yz
 have vl:∀{q:Hp},Hp.le q (hp w)->q g=aO->q b'=aO:=by
  intro q hq hqg;rcases hb' with rfl|hb'
  ·exact hqg
  ·exact aU1
 have kN:∀{q:Hp},q b'=aO->mP (Hp.one b' y) q:=by
  intro q hq n
  grind [Hp.one]
 have Mu:Hp.le (Hp.one b' y) (hp w'):=Yv
 have hr:r g=aO:=by rcases hf.ro g with h|h;all_goals grind
 have S7:O.f g=aO:=by rcases hf.of g with h|h;all_goals grind
 have h2b:o2 g=aO:=by rcases hd g with h|h;all_goals grind
 have ho2:Hp.le o2 (hp w):=h2.trans hf.o
 refine⟨r,mb (Hp.one b' y) o2,h0,⟨hle hf.r hr,ma Mu (hle ho2 h2b),hle hf.f S7,?_,hf.rf,?_⟩,?_,qK.trans ⟨hg.os,hg.tape,hg.output,hg.size,λ_=>hd0⟩⟩
 ·exact(iQ (kN (vl hf.r hr)) (hf.ro.mono (.refl _) h2).symm).symm
 ·exact iQ (kN (vl hf.f S7)) (hf.of.mono h2 (.refl _))
 ·exact⟨Hp.one b' y,o2,kN (vl ho2 h2b),ig _ _,gu (kN (vl ho2 h2b)),by show Hp.one _ _ _=_;simp[Hp.one],ir⟩
theorem P7{O:de}{H:Y bG}{w w':aV}{y:Obj}(h:Sat O H w)(hg:w.grownBy w' aO)(hd0:w.drawn<=w'.drawn)(hb:w'.heap[b']?=aN y)(hb':w.heap.size<=b'):
 Sat O (Sl.pt b' y::H) w':=by
 obtain⟨r,o,h0,hf,ir,qK⟩:=h
 have hle:∀{q:Hp},Hp.le q (hp w)->Hp.le q (hp w'):=by
  intro q hq n z hn;have h3:=hq _ _ hn;have h4:=hg.block n (Mt h3) dW;exact Yz
 have vl:∀{q:Hp},Hp.le q (hp w)->q b'=aO:=by
  intro q hq;exact aU1
 have kN:∀{q:Hp},q b'=aO->mP (Hp.one b' y) q:=by
  intro q hq n
  grind [Hp.one]
 have Mu:Hp.le (Hp.one b' y) (hp w'):=Yv
 refine⟨r,mb (Hp.one b' y) o,h0,⟨hle hf.r,ma Mu (hle hf.o),hle hf.f,?_,hf.rf,?_⟩,?_,qK.trans ⟨hg.os,hg.tape,hg.output,hg.size,λ_=>hd0⟩⟩
 ·exact(iQ (kN (vl hf.r)) hf.ro.symm).symm
 ·exact iQ (kN (vl hf.f)) hf.of
 ·exact⟨Hp.one b' y,o,kN (vl hf.o),ig _ _,gu (kN (vl hf.o)),by show Hp.one _ _ _=_;simp[Hp.one],ir⟩
theorem eR{O:de}{H:Y bG}{w:aV}{c:ab}(h:Sat O (own e sz a n c xs::H) w):
 (a=aO/\n=0/\c=0/\xs=[]/\Sat O H w)\/
 ∃g cur,a=aN ⟨g,0,aO⟩/\xs.length=n*sz/\n<=c/\c<=maxLen/\c*sz<=cur.size/\cur.toList.take (n*sz)=xs/\Sat O (Sl.pt g (.cells cur e (0,0))::H) w:=by
 obtain⟨r,o,h0,hf,⟨o1,o2,hd,h1,h2,l6,ir⟩,qK⟩:=h
 obtain⟨h3,⟨h4,h5⟩|⟨g,cap,cur,h4,h5,h6,h7,h8,h9⟩⟩:=l6
 ·cases h4
  refine .inl ⟨U,U,U,?_,r,o,h0,hf,kx H (.refl _) h2 ir,qK⟩
  grind
 ·cases h4;exact .inr ⟨g,cur,U,h3,h6,h7,h8,h9,r,o,h0,hf,⟨o1,o2,hd,h1,h2,h5,ir⟩,qK⟩
theorem gY{O:de}{H:Y bG}{w:aV}{g c:ab}(h:Sat O (Sl.pt g (.cells cur e (0,0))::H) w)(h3:xs.length=n*sz)(h6:n<=c)(h7:c<=maxLen)(h8:c*sz<=cur.size)(h9:cur.toList.take (n*sz)=xs):
 Sat O (own e sz (aN ⟨g,0,aO⟩) n c xs::H) w:=by
 obtain⟨r,o,h0,hf,⟨o1,o2,hd,h1,h2,l6,ir⟩,qK⟩:=h
 exact⟨r,o,h0,hf,⟨o1,o2,hd,h1,h2,⟨h3,.inr ⟨g,c,cur,U,l6,h6,h7,h8,h9⟩⟩,ir⟩,qK⟩
theorem j6{O:de}{H:Y bG}{w:aV}(e sz:ab)(h:Sat O H w):Sat O (own e sz aO 0 0 []::H) w:=by
 obtain⟨r,o,h0,hf,ir,qK⟩:=h;exact⟨r,o,h0,hf,⟨gI,o,ef _,dQ _,.refl _,⟨by simp,.inl ⟨U,U⟩⟩,ir⟩,qK⟩
theorem Sat.drew{O:de}{H:Y bG}{w:aV}(h:Sat O H w):Sat O H w.drew:=h.heap U U U U (iz _)
theorem Sat.mR{O:de}{H:Y bG}{w:aV}(h:Sat O H w)(x:Obj):Sat O (Sl.pt w.heap.size x::H) (w.alloc x):=h.alloc x
theorem Sat.setRow{O:de}{H:Y bG}{w:aV}{g:ab}{cur':ar aR}{fz:ab×ab}(h:Sat O (Sl.pt g (.cells cur e fz)::H) w):Sat O (Sl.pt g (.cells cur' e fz)::H) (w.setRow g cur'):=by
 refine Sat.put h ⟨U,U,U,by simp[World.setRow],λ_=>bz _⟩ (setRow_heap w g cur _ e _ (fF h)) ?_
 grind [World.setRow]
section
variable{P:aT}
theorem aU2:(140737488355328:ab)<=maxLen:=by grind [maxLen]
theorem Sat.append{ty c m:ab}{news:Y aR}{ad:aX}(h:Sat O (own e sz a n c xs::H) w)[ht:qQ P t e][hz:jH P e sz][Xw:Ap P e Di][Qd:TZ P e zs](zW:zs.length=sz)(hl:news.length=m*sz)(hn:∀(j:ab) (u:aR),news[j]?=aN u->w.cell? (ad.add j)=aN u)(h1:∀u∈news,u.oneCell'=aP)(HW:1<=Di)(hb:(n+m)*Di<=140737488355328):
 ∃a' c' w',(Builtin.append_ #[t,t] ty #[.slice a n c,.slice (aN ad) m c2]).run P w=.ok (.slice a' (n+m) c') w'/\Sat O (own e sz a' (n+m) c' (xs++news)::H) w':=by
 obtain⟨i,hi,Ar⟩:=cz.1 hz.out
 have B5:i.bytes=Di:=by have:=Xw.out;rw[hi]at this;simpa using this
 obtain⟨z,hzero,hzc⟩:=cz.1 Qd.out
 have uE:i.zero=aN z:=by rw[hi]at hzero;simpa using hzero
 subst Ar
 have vP:n+m<=140737488355328:=bo (Nat.le_mul_of_pos_right _ HW) hb
 have Qe:n+m<=maxLen:=bo vP aU2
 have h63:((n+m:ab):ae)<=9223372036854775807:=bw
 rcases eR h with⟨rfl,rfl,rfl,rfl,hs⟩|⟨g,cur,rfl,h3,h6,h7,h8,h9,hs⟩
 ·by_cases hm:m=0
  ·subst hm;have:news=[]:=by cases news with|nil=>rfl|cons _ _=>simp at hl
   subst this;refine⟨aO,0,w,?_,j6 _ _ hs⟩;have hf:=run_firstCells_some (P:=P) w i.size 0 ad 0 c2 [] dW dW;simp[Builtin.append_,cI ht.out,sizeOf,typeInfo,hi,Builtin.lenOf,hf]
  ·have hr:=run_append_nil (P:=P) w t ty e i z ht.out hi uE ad m c2 news hl hn bw bw (by rw[B5];simp only[bT]at hb;omega);simp only[bT]at Qe ⊢;refine⟨_,_,_,hr,?_⟩;have tt:=grownCap_ge w m 0 e;have hzs:z.cells.size=i.size:=by rw[<-zW,<-hzc];simp
   refine gY (w:=_) (Sat.mR hs.drew _) (by simpa using hl) tt (grownCap_le_maxLen w m 0 e Qe) ?_ ?_
   ·refine Nat.le_of_eq (Eq.symm ?_);simp only[Array.size_append,eW,size_zeroCells,hzs,hl];rw[<-ic];congr 1;omega
   ·simp only[Array.toList_append,bk];rw[List.take_append_of_le_length UQ,bI UQ]
 ·by_cases Mz:n+m<=c
  ·have hcur:n*i.size+news.length<=cur.size:=by
    rw[hl,<-ic];exact bo (eB _ Mz) h8
   have hr:=run_append_room (P:=P) w t ty e i ht.out hi g n c cur (fF hs) ad m c2 news hl hn h1 Mz hcur;refine⟨_,_,_,hr,?_⟩;have hlen:cur.toList.length=cur.size:=dW;refine gY (Sat.setRow hs) ?_ Mz h7 ?_ ?_
   ·rw[bK,h3,hl,ic]
   ·simp only[eW,bK,dG,List.length_drop,hlen];omega
   ·rw[<-h9];have e1:(cur.toList.take (n*i.size)).length=n*i.size:=by rw[h9,h3]
    rw[cB];show((cur.toList.take (n*i.size)++(news++cur.toList.drop (n*i.size+news.length)))).take ((n+m)*i.size)=_;rw[<-cB,List.take_append_of_le_length bE4];rw[bI bE4]
  ·have Dj:∀(j:ab) (v:aR),xs[j]?=aN v->w.cell? ((⟨g,0,aO⟩:aX).add j)=aN v:=by
    intro j v hj;rw[addr_add,bT];have hg:=fF hs;rw[<-h9,List.getElem?_take]at hj;split at hj
    ·have:cur[j]?=aN v:=by simpa using hj
     simp[gl,hg,this]
    ·cases hj
   have hr:=run_append_grow (P:=P) w t ty e i z ht.out hi uE ⟨g,0,aO⟩ n c xs h3 Dj ad m c2 news hl hn bw h63 (by rw[B5];exact growslice_fits bw hb);refine⟨_,_,_,hr,?_⟩;have tt:=grownCap_ge w (n+m) c e;have hzs:z.cells.size=i.size:=by rw[<-zW,<-hzc];simp
   have uB:(xs++news).length=(n+m)*i.size:=by rw[bK,h3,hl,ic]
   refine gY (w:=_) (Sat.mR (hs.dE (bS.drop _ _)).drew _) uB tt (grownCap_le_maxLen w (n+m) c e Qe) ?_ ?_
   ·refine Nat.le_of_eq (Eq.symm ?_);simp only[Array.size_append,eW,size_zeroCells,hzs,hl,h3];rw[<-ic,<-ic];congr 1;omega
   ·simp only[Array.toList_append];rw[List.take_append_of_le_length (by rw[uB];exact bz _),bI (by rw[uB];exact bz _)]
end
class FO(H:Y bG)(a:ah aX)(e sz n c:ay ab)(xs:ay (Y aR))(rest:ay (Y bG)):Prop where out:bS H (own e sz a n c xs::rest)
instance FO.here(e sz n c:ab)(a:ah aX)(xs:Y aR)(H:Y bG):FO (own e sz a n c xs::H) a e sz n c xs H:=⟨bS.refl _⟩
instance(priority:=low) FO.there(p:bG)(H:Y bG)(a:ah aX)(e sz n c:ab)(xs:Y aR)(rest:Y bG)[h:FO H a e sz n c xs rest]:FO (p::H) a e sz n c xs (p::rest):=
 ⟨(bS.cons p h.out).trans (eo _ _ _)⟩
def IN(place:ab->ah (ab×ab))(cells:Y aR):Y (ab×aR)->ah (Y aR)
 |[]=>aN cells
 |(i,v)::r=>match place i,cl v with
  |some (off,size),aN l=>match eU l.length size,H' off cells l with
   |true,aN m=>IN place m r
   |_,_=>aO
  |_,_=>aO
theorem IP(off:ab):∀(l:Y aR) (k:ab) (cs:ar aR),((l.zipIdx k).foldl (λcs (c,j)=>cs.setIfInBounds (off+j) c) cs).toList=(cs.toList.take (off+k)++l++cs.toList.drop (off+k+l.length)).take cs.size\/cs.size<off+k+l.length
 |[],k,cs=>by left;simp;grind [bI]
 |v::r,k,cs=>by
  by_cases h:cs.size<off+k+(v::r).length
  ·right;exact h
  ·left;simp only[bL]at h;rcases IP off r (k+1) (cs.setIfInBounds (off+k) v)with h1|h1
   ·simp only[List.zipIdx_cons,eD];rw[h1];simp only[Array.size_setIfInBounds,Array.toList_setIfInBounds];congr 1;apply fq;intro j;have hl:off+k<cs.toList.length:=fD;simp only[List.getElem?_append,bK,dG,fJ,bL,List.getElem?_take,List.getElem?_drop,List.getElem?_set];have qM:min (off+(k+1)) cs.toList.length=off+k+1:=by simp at hl ⊢;omega
    have KC:min (off+k) cs.toList.length=off+k:=by simp at hl ⊢;omega
    rw[qM,KC];by_cases j1:j<off+k
    ·have:j<off+k+1:=bw;have j2:j<off+(k+1):=bw;have j3:¬off+k=j:=bw;simp[j1,this,j2,j3,show j<off+k+1+r.length from by omega,show j<off+k+(r.length+1)from by omega]
    ·by_cases j2:j=off+k
     ·subst j2;simp[show off+k<off+(k+1)from by omega,show off+k<off+k+1+r.length from by omega,show off+k<cs.size from by omega]
     ·have j3:¬j<off+k+1:=bw;have j5:∃q,j - (off+k)=q+1/\j - (off+k+1)=q:=⟨j - (off+k+1),by omega,U⟩;obtain⟨q,Xx,Tc⟩:=j5;by_cases j4:j<off+k+1+r.length
      ·simp[j1,j3,j4,show j<off+k+(r.length+1)from by omega,Xx,Tc]
      ·have e1:off+(k+1)+r.length+(j - (off+k+1+r.length))=j:=bw;have e2:off+k+(r.length+1)+(j - (off+k+(r.length+1)))=j:=bw;simp[j4,show ¬j<off+k+(r.length+1)from by omega,e1,e2,show ¬off+k=j from by omega]
   ·simp at h1;omega
theorem As{place:ab->ah (ab×ab)}:∀{parts:Y (ab×aR)} {cells m:Y aR},IN place cells parts=aN m->Instr.fill place cells.toArray parts=aN m.toArray
 |[],cells,m,h=>by cases h;rfl
 |(i,v)::r,cells,m,h=>by
  simp only[IN]at h;split at h
  ·rename_i off size l hp hv;split at h
   ·rename_i m' hb ho;obtain⟨h1,h2⟩:=Kz ho;have hlen:l.length=size:=fX hb;have hc:=S8 hv;simp only[Instr.fill,hp,hc,eW,hlen,ne_eq,not_true_eq_false,decide_false,Bool.false_or];have h3:¬(off+size>cells.length):=bw;simp only[h3,decide_false,di,aI];have h4:=IP off l 0 cells.toArray;simp only[Nat.add_zero]at h4;rcases h4 with h4|h4
    ·have h5:(l.toArray.zipIdx.foldl (λcs (c,j)=>cs.setIfInBounds (off+j) c) cells.toArray)=m'.toArray:=by
      apply Array.toList_inj.1;rw[<-Array.foldl_toList];simp only[Array.toList_zipIdx];rw[h4,h2];rw[bI]
      ·simp;omega
     rw[h5];exact As h
    ·simp at h4;omega
   ·cases h
  ·cases h
def ay0:Y aR->Y aR->ah (Y aR)
 |[],m=>aN m
 |x::r,m=>match ay0 r m with
  |some q=>aN (x::q)
  |none=>aO
theorem Td:∀{l m q:Y aR},ay0 l m=aN q->q=l++m
 |[],m,q,h=>by cases h;rfl
 |x::r,m,q,h=>by
  simp only[ay0]at h;split at h
  ·rename_i q' hq;cases h;rw[Td hq];rfl
  ·cases h
def ay1(zs:Y aR):ab->ah (Y aR)
 |0=>aN []
 |n+1=>match ay1 zs n with
  |none=>aO
  |some l=>ay0 zs l
theorem Te{zs:Y aR}:∀{n:ab} {l:Y aR},ay1 zs n=aN l->l=(cQ n zs).flatten
 |0,l,h=>by cases h;rfl
 |n+1,l,h=>by
  simp only[ay1]at h;split at h
  ·cases h
  ·rename_i m hm;rw[Td h,Te hm,List.replicate_succ,List.flatten_cons]
theorem MA(zs:Y aR)(n:ab):(((Array.range (n*zs.length)).map (λk=>zs.toArray[k%zs.toArray.size]!))).toList=(cQ n zs).flatten:=by
 apply fq
 intro j
 have key:∀(n j:ab),(cQ n zs).flatten[j]?=if j<n*zs.length then zs[j%zs.length]? else aO:=by
  intro n;induction n with
  |zero=>intro j;simp
  |succ n ih=>
   intro j;rw[List.replicate_succ,List.flatten_cons,List.getElem?_append];by_cases hj:j<zs.length;all_goals grind [Nat.mod_eq_of_lt,Nat.mod_eq_sub_mod]
 grind [Nat.mod_lt]
section
variable{P:aT}{vs:Y (ab×aR)}{rest:Y aW}
def xo(vs:Y (ab×aR)):Y (ab×aY)->ah (Y (ab×aR))
 |[]=>aN []
 |(i,x)::r=>match fI vs x with
  |none=>aO
  |some v=>match xo vs r with
   |none=>aO
   |some l=>aN ((i,v)::l)
theorem uF{a:Act}(h:ik ⟨N,vs,ds⟩ a):∀{l:Y (ab×aY)} {us:Y (ab×aR)},xo vs l=aN us->(l.map fun(i,x)=>(i,a.eval x))=us
 |[],us,e=>by cases e;rfl
 |(i,x)::r,us,e=>by
  simp only[xo]at e;split at e
  ·cases e
  ·rename_i v hv;split at e
   ·cases e
   ·rename_i l hl;cases e;simp[bU h hv,uF h hl]
theorem bC1{fs:Y (ab×ab)}[hf:uw P t fs][hz:TZ P t zs](hw:bO ops vs ⟨aN d,.build t parts.toArray,ty,pos,af,g⟩=aN aP)(hn:bM d N=aP)(hx:xo vs parts=aN us)(hl:IN (λi=>fs[i]?) zs us=aN l)(h:X P b O (aN (ops,rest)) k ⟨N,(d,.agg l.toArray)::vs,ds⟩ H R):X P b O (aN (ops,⟨aN d,.build t parts.toArray,ty,pos,af,g⟩::rest)) k ⟨N,vs,ds⟩ H R:=
 X.val U hn hw (λa w he _=>by
  have e1:=uF he hx;obtain⟨fl,h1,h2⟩:=hf.out;obtain⟨z,h3,h4⟩:=wg (P:=P) (w:=w) hz.out;have h5:=As hl;have h6:∀(l:Y Field) (fs:Y (ab×ab)),l.map (λf=>(f.offset,(P.info? f.type).map (·.size)))=fs.map (fun(a,b)=>(a,aN b))->(l.mapM (m:=Sem) λf=>do pure (f.offset,<-sizeOf f.type)).run P w=.ok fs w:=by
   intro l;induction l with
   |nil=>simp_all
   |cons f r ih=>
    intro fs h;cases fs with
    |nil=>simp at h
    |cons p q=>
     simp only[bN,List.cons.injEq,Prod.mk.injEq]at h;have ih':=ih q h.2;simp only[List.mapM_cons,cb,jR h.1.2,bJ,db,ih',h.1.1]
  have h7:=h6 fl.toList fs h2;have e2:parts.toArray.map (fun(i,x)=>(i,a.eval x))=us.toArray:=bQ;simp only[aU,e2,Instr.build,cb,h3,bJ,db,cI h1,h4,Array.mapM_eq_mapM_toList,Sem.run_map,h7];simp_all) h
theorem me[hk:Kt.pC k]{zl:Y aR}[ht:qQ P t e][zW:jH P e sz][hz:TZ P e zs](hw:bO ops vs ⟨aN d,.buildSlice t n parts.toArray,ty,pos,af,g⟩=aN aP)(hn:bM d N=aP)(hx:xo vs parts=aN us)(D5:ay1 zs n=aN zl)(hl:IN (λi=>aN (i*sz,sz)) zl us=aN l)(hzs:eU zs.length sz=aP)(hsmall:bM (n*sz) 16777216=aP)(B6:bM 0 (n*sz)=aP)(h:∀bl,X P b O (aN (ops,rest)) k ⟨N,(d,.slice (aN ⟨bl,0,aO⟩) n n)::vs,ds⟩ (bx bl e l::H) R):X P b O (aN (ops,⟨aN d,.buildSlice t n parts.toArray,ty,pos,af,g⟩::rest)) k ⟨N,vs,ds⟩ H R:=
 mN (v:=λbl=>.slice (aN ⟨bl,0,aO⟩) n n) (Hs':=λbl=>bx bl e l::H) U hn hw (λa w he hs=>by
  have e1:=uF he hx;obtain⟨z,h3,h4⟩:=wg (P:=P) (w:=w) hz.out;have h5:=As hl;have e2:parts.toArray.map (fun(i,x)=>(i,a.eval x))=us.toArray:=bQ;have hlen:zs.length=sz:=fX hzs;have Es:¬(n*sz>2^24):=by have:=bH hsmall;omega
  have vQ:¬(n*sz=0):=by have:=bH B6;omega
  have h6:(Array.range (n*sz)).map (λk=>zs.toArray[k%zs.toArray.size]!)=zl.toArray:=by
   grind [MA,Te]
  refine⟨w.heap.size,_,?_,hs.alloc (.cells l.toArray e (0,0))⟩;simp only[aU,e2,Instr.buildSlice,cb,cI ht.out,bJ,jR zW.out,Es,vQ,aI,db,h3,h4,h6,h5,newRow,run_newObj]) h
end
abbrev bn(l:Y au):aR:=.string ⟨l.toArray⟩
def Bd(vs:Y (ab×aR))(dflt:ab):ah aY->ab->Prop
 |none,n=>n=dflt
 |some x,n=>∃kk,fI vs x=aN (.int kk (n:ae))
theorem Bd.no:Bd vs n aO n:=rfl
theorem Bd.at{dflt:ab}(h:fI vs x=aN (.int kk m))(hm:m=(n:ae)):Bd vs dflt (aN x) n:=⟨kk,hm▸h⟩
theorem run_sliceBound{w:aV}{y:ab}{c:BoundsCode}(h:n<=y):(Instr.sliceBound (.int kk (n:ae)) y c).run P w=.ok n w:=by
 have h1:(n:ae)<=y:=bw;simp[Instr.sliceBound,asIntOf,h]
theorem pD{w:aV}{N:ab}{ds:Y Deferred}{a:Act}(he:ik ⟨N,vs,ds⟩ a){isS:ai}{len cap l h:ab}(hl:Bd vs 0 low l)(hh:Bd vs len high h)(h1:l<=h)(h2:h<=cap):
 (iA isS len cap (low.map a.eval) (high.map a.eval) aO).run P w=.ok (l,h,cap) w:=by
 cases low with
 |none=>
  obtain rfl:l=0:=hl;cases high with
  |none=>obtain rfl:h=len:=hh;simp[iA]
  |some y=>
   obtain⟨kk,hy⟩:=hh;have e:=bU he hy;simp[iA,e,run_sliceBound h2]
 |some x=>
  obtain⟨kk,hx⟩:=hl;have e1:=bU he hx;cases high with
  |none=>
   obtain rfl:h=len:=hh;simp[iA,e1,run_sliceBound h1]
  |some y=>
   obtain⟨kk',hy⟩:=hh;have e:=bU he hy;simp[iA,e,e1,run_sliceBound h2,run_sliceBound h1]
section
variable{P:aT}{vs:Y (ab×aR)}{rest:Y aW}
theorem yK{E:Env}(hH:VS H Hs')(h:X P b O c k E Hs' R):X P b O c k E H R:=by
 intro hb;have:=h hb;cases c with
 |none=>exact λa w he hs=>this a w he (hH _ _ hs)
 |some c=>exact λa w he hs=>this a w he (hH _ _ hs)
theorem bl6{E:Env}(hH:bS H (ro p::F)){q:Prop}(hq:∀r,p r->q)(h:q->X P b O c k E H R):X P b O c k E H R:=by
 intro hb;cases c with
 |none=>exact λa w he hs=>h (hq _ (Sat.ro (hs.dE hH))) hb a w he hs
 |some c=>exact λa w he hs=>h (hq _ (Sat.ro (hs.dE hH))) hb a w he hs
theorem jG{i:aY}{l:Y au}[ht:qm P t](hw:bO ops vs ⟨aN d,.index t x i,ty,pos,af,g⟩=aN aP)(hn:bM d N=aP)(hx:fI vs x=aN (bn l))(hi:fI vs i=aN (.int kk m))(hm:m=(j:ae))(hj:j<l.length)(h:X P b O (aN (ops,rest)) k ⟨N,(d,gT l[j])::vs,ds⟩ H R):X P b O (aN (ops,⟨aN d,.index t x i,ty,pos,af,g⟩::rest)) k ⟨N,vs,ds⟩ H R:=
 X.val U hn hw (λa w he _=>by
  have e1:=bU he hx;have e2:=bU he hi;subst hm;have e3:(⟨l.toArray⟩:aJ)[j]?=aN l[j]:=by
   have:j<(⟨l.toArray⟩:aJ).size:=YA;rw[getElem?_pos (⟨l.toArray⟩:aJ) j this];rfl
  simp[aU,e1,e2,Instr.index,asIntOf,cI ht.out,e3,gT]) h
theorem lO{l h:ab}{s:Y au}[ht:qm P t](hw:bO ops vs ⟨aN d,.slice t x low high aO,ty,pos,af,g⟩=aN aP)(hn:bM d N=aP)(hx:fI vs x=aN (bn s))(hl:Bd vs 0 low l)(hh:Bd vs s.length high h)(h1:l<=h)(h2:h<=s.length)(hk:X P b O (aN (ops,rest)) k ⟨N,(d,bn ((s.drop l).take (h - l)))::vs,ds⟩ H R):X P b O (aN (ops,⟨aN d,.slice t x low high aO,ty,pos,af,g⟩::rest)) k ⟨N,vs,ds⟩ H R:=
 X.val U hn hw (λa w he _=>by
  have e1:=bU he hx;have e2:(⟨s.toArray⟩:aJ).size=s.length:=bp0;have e3:=pD (P:=P) (w:=w) he (isS:=aQ) hl hh h1 h2;have e4:(⟨s.toArray⟩:aJ).extract l h=⟨((s.drop l).take (h - l)).toArray⟩:=by
   apply ByteArray.ext;rw[ByteArray.data_extract];apply Array.toList_inj.1;simp[List.take_drop,List.extract]
  simp[aU,e1,Instr.sliceAt,Instr.slice,cI ht.out,e2,e3,e4]) hk
theorem xm.cut{α:Type}{Re:Rp α}{l:ab}{xs:Y α}(m:ai)(h:xm Re sz a xs r)(h1:l+n<=xs.length)(hm:m=aP->n=0):
 xm Re sz (if m=aP then a else a.map (·.add (l*sz))) ((xs.drop l).take n) r:=by
 rcases Nat.eq_zero_or_pos n with rfl|B6
 ·left;simp
 ·have hmf:m=aQ:=bQ
  subst hmf
  rcases h with h|⟨b,o,rfl,h2⟩
  ·grind
  ·right
   refine⟨b,o+l*sz,by simp[addr_add],?_⟩
   grind
theorem pj[hk:Kt.pC k]{α:Type}{Re:Rp α}{l h c:ab}{xs:Y α}[ht:qQ P t e][hz:jH P e sz](hw:bO ops vs ⟨aN d,.slice t x low high aO,ty,pos,af,g⟩=aN aP)(hn:bM d N=aP)(hx:fI vs x=aN (.slice a n c))[hf:BQ H a Re sz xs](hlen:xs.length=n)(hl:Bd vs 0 low l)(hh:Bd vs n high h)(h1:l<=h)(h2:h<=n)(qn:n<=c)(hk:∀a' c',h - l<=c'->X P b O (aN (ops,rest)) k ⟨N,(d,.slice a' (h - l) c')::vs,ds⟩ (dp Re sz a' ((xs.drop l).take (h - l))::H) R):X P b O (aN (ops,⟨aN d,.slice t x low high aO,ty,pos,af,g⟩::rest)) k ⟨N,vs,ds⟩ H R:=
 E9 (Hs':=dp Re sz (if decide (c=l)=aP then a else a.map (·.add (l*sz))) ((xs.drop l).take (h - l))::H) (v:=.slice (if decide (c=l)=aP then a else a.map (·.add (l*sz))) (h - l) (c - l)) U hn hw (λact w he hs=>by
  have e1:=bU he hx;have e3:=pD (P:=P) (w:=w) he (isS:=aP) (cap:=c) hl hh h1 bw;obtain⟨rr,hr⟩:=hf.out;refine⟨w,?_,hs.dE (js hr λr h3=>h3.cut _ bw fD)⟩;simp[aU,e1,Instr.sliceAt,Instr.slice,cI ht.out,e3,jR hz.out]) (hk _ _ bw)
theorem aS5[hk:Kt.pC k]{cp:ab}[ht:qQ P t e][hz:jH P e sz][Xw:Ap P e Di][Qd:TZ P e zs](hw:bO ops vs ⟨aN d,.makeSlice t x y,ty,pos,af,g⟩=aN aP)(hn:bM d N=aP)(hx:fI vs x=aN (.int k1 0))(hy:fI vs y=aN (.int k2 m))(hm:m=(cp:ae))(hb:Di*cp<=281474976710656)(h63:cp<=9223372036854775807)(h:∀a,X P b O (aN (ops,rest)) k ⟨N,(d,.slice a 0 cp)::vs,ds⟩ (own e sz a 0 cp []::H) R):X P b O (aN (ops,⟨aN d,.makeSlice t x y,ty,pos,af,g⟩::rest)) k ⟨N,vs,ds⟩ H R:=
 mN (v:=λa=>.slice a 0 cp) (Hs':=λa=>own e sz a 0 cp []::H) U hn hw (λact w he hs=>by
  have e1:=bU he hx
  have e2:=bU he hy
  obtain⟨i,hi,Ar⟩:=cz.1 hz.out
  have B5:i.bytes=Di:=bp1
  obtain⟨z,hzero,hzc⟩:=cz.1 Qd.out
  have uE:i.zero=aN z:=bQ
  subst hm
  have hr:=run_make (P:=P) w t e i z ht.out hi uE k1 k2 0 cp (Int.le_refl _) bw bQ bw
  simp only[Int.toNat_zero,gS]at hr
  refine⟨aN ⟨w.heap.size,0,aO⟩,w.alloc (.cells (madeCells z.cells (cp*i.size)) e),by grind [aU,cb,bJ,db],?_⟩
  grind [gY,Sat.mR,maxLen,size_madeCells]) h
theorem aR5[hk:Kt.pC k]{m1 m2:ae}[ht:qQ P t e][hz:jH P e sz][Xw:Ap P e Di][Qd:TZ P e zs](D5:zs.length=sz)(hw:bO ops vs ⟨aN d,.makeSlice t x y,ty,pos,af,g⟩=aN aP)(hn:bM d N=aP)(hx:fI vs x=aN (.int k1 m1))(hy:fI vs y=aN (.int k2 m2))(qM:m1=(n:ae))(KC:m2=(n:ae))(hb:Di*n<=281474976710656)(h63:n<=9223372036854775807)(h:∀a,X P b O (aN (ops,rest)) k ⟨N,(d,.slice a n n)::vs,ds⟩ (own e sz a n n (cQ n zs).flatten::H) R):X P b O (aN (ops,⟨aN d,.makeSlice t x y,ty,pos,af,g⟩::rest)) k ⟨N,vs,ds⟩ H R:=
 mN (v:=λa=>.slice a n n) (Hs':=λa=>own e sz a n n (cQ n zs).flatten::H) U hn hw (λact w he hs=>by
  have e1:=bU he hx
  have e2:=bU he hy
  obtain⟨i,hi,Ar⟩:=cz.1 hz.out
  have B5:i.bytes=Di:=bp1
  obtain⟨z,hzero,hzc⟩:=cz.1 Qd.out
  have uE:i.zero=aN z:=bQ
  subst qM
  subst KC
  have hr:=run_make (P:=P) w t e i z ht.out hi uE k1 k2 n n bw bw bQ bw
  simp only[gS]at hr
  refine⟨aN ⟨w.heap.size,0,aO⟩,w.alloc (.cells (madeCells z.cells (n*i.size)) e),by grind [aU,cb,bJ,db],?_⟩
  grind [madeCells,MA,gY,Sat.mR,maxLen]) h
theorem uy[hk:Kt.pC k]{c m:ab}{rs LZ:Y bG}[ht:qQ P t e][hz:jH P e sz][Xw:Ap P e Di][Qd:TZ P e zs](hw:bO ops vs ⟨aN d,.call ⟨.builtin .append,#[x,y],#[t,t]⟩,ty,pos,af,g⟩=aN aP)(hn:bM d N=aP)(hx:fI vs x=aN (.slice a n c))(hy:fI vs y=aN (.slice (aN ⟨bl,0,aO⟩) m c2))[ho:FO H a e sz n c xs rs][hs:FB rs bl bt cs LZ](D5:eU zs.length sz=aP)(hl:eU cs.length (m*sz)=aP)(h1:nY cs=aP)(HW:Nat.ble 1 Di=aP)(hb:(n+m)*Di<=140737488355328)(h:∀a' c',X P b O (aN (ops,rest)) k ⟨N,(d,.slice a' (n+m) c')::vs,ds⟩ (own e sz a' (n+m) c' (xs++cs)::LZ) R):
 X P b O (aN (ops,⟨aN d,.call ⟨.builtin .append,#[x,y],#[t,t]⟩,ty,pos,af,g⟩::rest)) k ⟨N,vs,ds⟩ H R:=
 mN (ι:=ah aX×ab) (v:=λp=>.slice p.1 (n+m) p.2) (Hs':=λp=>own e sz p.1 (n+m) p.2 (xs++cs)::LZ) U hn hw (λact w he oP=>by
  have e1:=bU he hx;have e2:=bU he hy;have h2:=oP.dE ho.out;have h3:=Sat.append (P:=P) (t:=t) (ty:=ty) (ad:=⟨bl,0,aO⟩) (m:=m) (c2:=c2) (news:=cs) h2 (fX D5) (fX hl) (λj u hj=>by
   rw[addr_add,bT];exact Sat.cell (h2.dE (bS.drop _ _)) hs.out hj) (rD h1) (bH HW) hb
  obtain⟨a',c',w',h4,h5⟩:=h3;exact⟨(a',c'),w',by simp[aU,resolve,invoke,builtin,e1,e2,h4],h5.dE (bS.cons _ (hs.out.trans (bS.drop _ _)))⟩) (λp=>h p.1 p.2)
theorem Kp[hk:Kt.pC k]{α:Type}{cC:α->Y aR}{c m:ab}{a2:ah aX}{ys:Y α}{rs:Y bG}[ht:qQ P t e][hz:jH P e sz][Xw:Ap P e Di][Qd:TZ P e zs](hw:bO ops vs ⟨aN d,.call ⟨.builtin .append,#[x,y],#[t,t]⟩,ty,pos,af,g⟩=aN aP)(hn:bM d N=aP)(hx:fI vs x=aN (.slice a n c))(hy:fI vs y=aN (.slice a2 m c2))[ho:FO H a e sz n c xs rs][hs:BQ rs a2 (cy cC) sz ys](hm:ys.length=m)(D5:eU zs.length sz=aP)(lV:∀y,(cC y).length=sz)(h1:∀y,nY (cC y)=aP)(HW:Nat.ble 1 Di=aP)(hb:(n+m)*Di<=140737488355328)(h:∀a' c',X P b O (aN (ops,rest)) k ⟨N,(d,.slice a' (n+m) c')::vs,ds⟩ (own e sz a' (n+m) c' (xs++ys.flatMap cC)::rs) R):
 X P b O (aN (ops,⟨aN d,.call ⟨.builtin .append,#[x,y],#[t,t]⟩,ty,pos,af,g⟩::rest)) k ⟨N,vs,ds⟩ H R:=
 mN (ι:=ah aX×ab) (v:=λp=>.slice p.1 (n+m) p.2) (Hs':=λp=>own e sz p.1 (n+m) p.2 (xs++ys.flatMap cC)::rs) U hn hw (λact w he oP=>by
  have e1:=bU he hx;have e2:=bU he hy;have h2:=oP.dE ho.out;obtain⟨rr,hr⟩:=hs.out;have qN:xm (cy cC) sz a2 ys (hp w):=Sat.ro ((h2.dE (bS.drop _ _)).dE hr);have hlen:(ys.flatMap cC).length=m*sz:=by
   rw[<-hm];clear qN hr hs hm h;induction ys<;>grind
  by_cases h0:ys=[]
  ·subst h0;have hm0:m=0:=by rw[<-hm];rfl
   subst hm0;obtain⟨i,hi,Ar⟩:=cz.1 hz.out;refine⟨(a,c),w,?_,by grind⟩;have qn:n<=c:=by
    rcases eR h2 with⟨_,rfl,rfl,_⟩|⟨_,_,_,_,h6,_⟩;all_goals omega
   have hf:(Builtin.firstCells sz 0 (.slice a2 0 c2)).run P w=.ok #[] w:=by
    cases a2 with
    |none=>simp[Builtin.firstCells]
    |some ad=>grind [run_firstCells_some]
   cases a<;>simp[aU,resolve,invoke,builtin,e1,e2,Builtin.append_,cI ht.out,jR hz.out,Builtin.lenOf,qn,hf,storeCells]
  ·rcases qN with qN|⟨b2,o2,rfl,qN⟩
   ·grind
   ·have h3:=Sat.append (P:=P) (t:=t) (ty:=ty) (ad:=⟨b2,o2,aO⟩) (m:=m) (c2:=c2) (news:=ys.flatMap cC) h2 (fX D5) hlen (λj u hj=>by
     rw[addr_add];have key:∀(ys:Y α) (j:ab) (u:aR),(ys.flatMap cC)[j]?=aN u->∃i y q,ys[i]?=aN y/\(cC y)[q]?=aN u/\j=i*sz+q:=by
      intro ys;induction ys with
      |nil=>grind
      |cons y r ih=>
       intro j u h;rw[ei,List.getElem?_append,lV]at h;by_cases hj:j<sz
       ·rw[ao hj]at h;exact⟨0,y,j,U,h,by simp⟩
       ·rw[aj hj]at h;obtain⟨i,y',q,h3,h4,h5⟩:=ih _ _ h;exact⟨i+1,y',q,by grind,h4,by grind⟩
     obtain⟨i,y,q,h6,h7,rfl⟩:=key _ _ _ hj;obtain⟨l,_,h8,h9⟩:=qN i y h6;have h9':l=cC y:=h9;subst h9';rw[<-Nat.add_assoc];exact h8.cell h7) (λu hu=>by
      grind [rD]) (bH HW) hb
    obtain⟨a',c',w',h4,h5⟩:=h3;exact⟨(a',c'),w',by simp[aU,resolve,invoke,builtin,e1,e2,h4],h5⟩) (λp=>h p.1 p.2)
end
end
section
variable{done:Y ab}{K:Type}{t i bl kt sz t' e et n c f f0 j:ab}{T:ab->ai}{x y:aY}{F Fx rs:Y bG}{kk:IntKind}{v zv:aR}{ts sU:ar TypeId}{xs us cs:Y aR}{ch:Y PanicEntry}{l m:Y au}{fn:Func}{op:BinOp}{a:ah aX}{P:aT}{o:Y aW}
def rls{α:Type}(R:Rp α)(sz:ab)(ls:Y (Y aR))(xs:Y α):bG:=
 ro (λr=>ls.length=xs.length/\∀(i:ab) (l:Y aR) (x:α),ls[i]?=aN l->xs[i]?=aN x->l.length=sz/\R.h r l x)
theorem sV{sz:ab}:∀{ls:Y (Y aR)} {i j:ab} {l:Y aR} {v:aR},(∀l∈ls,l.length=sz)->ls[i]?=aN l->l[j]?=aN v->ls.flatten[i*sz+j]?=aN v
 |[],i,j,l,v,_,h,_=>by cases h
 |m::r,0,j,l,v,hs,h,hv=>by
  grind
 |m::r,i+1,j,l,v,hs,h,hv=>by
  have hm:m.length=sz:=hs m dW;have ih:=sV (sz:=sz) (ls:=r) (i:=i) (j:=j) (l:=l) (v:=v) (λl hl=>hs l UQ) Au hv;rw[List.flatten_cons,List.getElem?_append_right (by rw[hm,ic];omega),hm];rw[show(i+1)*sz+j - sz=i*sz+j from by rw[ic];omega];exact ih
theorem SX{p q s:Hp->Prop}(F:Y bG)(h:∀r,p r->q r->s r):bS (ro p::ro q::F) (ro s::F):=by
 rintro r o ⟨o1,o2,hd,h1,h3,hp,o3,o4,hd',h4,h5,hq,ir⟩;exact⟨gI,o4,ef _,dQ _,h5.trans h3,λr' pg=>h r' (hp r' pg) (hq r' pg),ir⟩
theorem PL{α:Type}(R:Rp α){ls:Y (Y aR)}{xs:Y α}(F:Y bG)(hn:n=xs.length):
 VS (own e sz a n c ls.flatten::rls R sz ls xs::F) (dp R sz a xs::F):=by
 intro O w hs
 rcases eR hs with⟨rfl,rfl,rfl,Qf,h2⟩|⟨g,cur,rfl,h3,h6,h7,h8,h9,h2⟩
 ·have hx:xs=[]:=bQ;subst hx;refine h2.dE ?_;rintro r o ⟨o1,o2,hd,h1,h3,hp,ir⟩;exact⟨gI,o2,ef _,dQ _,h3,λr' pg=>.inl U,ir⟩
 ·refine(Sat.freeze h2).dE (SX F ?_)
  rintro r hg ⟨hlen,uB⟩
  right
  refine⟨g,0,U,λi x hx=>?_⟩
  have hi:i<ls.length:=bQ
  have hl:ls[i]?=aN ls[i]:=bX hi
  obtain⟨PA,h11⟩:=uB i _ x hl hx
  refine⟨ls[i],PA,⟨cur,e,(0,0),hg,λj v hv=>?_⟩,h11⟩
  have zW:∀l∈ls,l.length=sz:=by
   grind [List.getElem?_of_mem]
  have h12:=sV zW hl hv
  grind
theorem VS.freeze{α:Type}{cC:α->Y aR}{xs:Y α}(F:Y bG)(hn:n=xs.length)(lV:∀x,(cC x).length=sz):
 VS (own e sz a n c (xs.flatMap cC)::F) (dp (cy cC) sz a xs::F):=by
 intro O w hs
 have h1:Sat O (own e sz a n c (xs.map cC).flatten::rls (cy cC) sz (xs.map cC) xs::F) w:=by
  rw[List.flatMap_def]at hs;refine hs.dE ?_;rintro r o ⟨o1,o2,hd,h1,h3,hp,ir⟩;refine⟨o1,o2,hd,h1,h3,hp,gI,o2,ef _,dQ _,.refl _,λr' _=>⟨by simp,λi l x hl hx=>?_⟩,ir⟩;rw[eX,hx]at hl;cases hl;exact⟨lV x,U⟩
 exact PL _ F hn O w h1
section
variable{P:aT}{vs:Y (ab×aR)}{rest:Y aW}
theorem gZ{cc:ah (ar aW×Y aW)}{E:Env}(a:ah aX)[ho:FO H a e sz n c xs rs](hn:0<n)(h:∀bl,a=aN ⟨bl,0,aO⟩->X P b O cc k E H R):X P b O cc k E H R:=by
 have key:∀w,Sat O H w->∃bl,a=aN ⟨bl,0,aO⟩:=by
  intro w hs;rcases eR (hs.dE ho.out)with⟨_,h0,_⟩|⟨gg,_,h1,_⟩;all_goals grind
 intro hb;cases cc with
 |none=>exact λact w he hs=>by obtain⟨bl,zX⟩:=key w hs;exact h bl zX hb act w he hs
 |some cc=>exact λact w he hs=>by obtain⟨bl,zX⟩:=key w hs;exact h bl zX hb act w he hs
theorem eA{o:ab}{i:aY}{m:ae}[ht:qQ P t e][hz:jH P e sz](hw:bO ops vs ⟨aN d,.indexAddr t x i,ty,pos,af,g⟩=aN aP)(hn:bM d N=aP)(hx:fI vs x=aN (.slice (aN ⟨bl,o,aO⟩) n c))(hi:fI vs i=aN (.int kk m))(hm:m=(j:ae))(hj:j<n)(h:X P b O (aN (ops,rest)) k ⟨N,(d,.pointer (aN ⟨bl,o+j*sz,aO⟩))::vs,ds⟩ H R):
 X P b O (aN (ops,⟨aN d,.indexAddr t x i,ty,pos,af,g⟩::rest)) k ⟨N,vs,ds⟩ H R:=
 X.val U hn hw (λact w he hs=>by
  have e1:=bU he hx;have e2:=bU he hi;subst hm;simp[aU,e1,e2,Instr.indexAt,asIntOf,cI ht.out,jR hz.out,hj,addr_add]) h
theorem vY{w:aV}(h:Sat O H w)(hf:bS H (own e sz (aN ⟨bl,0,aO⟩) n c xs::rs))(hi:xs[i]?=aN v):w.cell? ⟨bl,i,aO⟩=aN v:=by
 rcases eR (h.dE hf)with⟨h0,_⟩|⟨g,cur,h1,h3,h6,h7,h8,h9,h2⟩
 ·cases h0
 ·cases h1
  have hg:=fF h2
  grind [gl]
theorem X.jK{o:ab}[ht:TA P t aQ](hw:bO ops vs ⟨aN d,.load t x,ty,pos,af,g⟩=aN aP)(hn:bM d N=aP)(hx:fI vs x=aN (.pointer (aN ⟨bl,o,aO⟩)))[hf:FO H (aN ⟨bl,0,aO⟩) e sz n c xs rs](hv:xs[o]?=aN v)(h:X P b O (aN (ops,rest)) k ⟨N,(d,v)::vs,ds⟩ H R):X P b O (aN (ops,⟨aN d,.load t x,ty,pos,af,g⟩::rest)) k ⟨N,vs,ds⟩ H R:=
 X.val U hn hw (λa w he hs=>by
  have e1:=bU he hx;have hg:=jZ (P:=P) (w:=w) ht.out;simp[aU,e1,jP,gh,loadVar,hg,vY hs hf.out hv]) h
theorem PM{o m:ab}{l:Y aR}[ht:TA P t aP][hz:jH P t m](hw:bO ops vs ⟨aN d,.load t x,ty,pos,af,g⟩=aN aP)(hn:bM d N=aP)(hx:fI vs x=aN (.pointer (aN ⟨bl,o,aO⟩)))[hf:FO H (aN ⟨bl,0,aO⟩) e sz n c xs rs](hl:l.length=m)(hv:(xs.drop o).take m=l)(h:X P b O (aN (ops,rest)) k ⟨N,(d,.agg l.toArray)::vs,ds⟩ H R):X P b O (aN (ops,⟨aN d,.load t x,ty,pos,af,g⟩::rest)) k ⟨N,vs,ds⟩ H R:=
 X.val U hn hw (λa w he hs=>by
  have e1:=bU he hx;have hg:=jZ (P:=P) (w:=w) ht.out;have h4:∀(j:ab) (v:aR),l[j]?=aN v->w.cell? ((⟨bl,o,aO⟩:aX).add j)=aN v:=by
   intro j v hj
   rw[addr_add]
   refine vY hs hf.out ?_
   grind
  have h5:=run_loadCells_list (P:=P) w ⟨bl,o,aO⟩ l h4;rw[hl]at h5;simp[aU,e1,jP,gh,loadVar,hg,jR hz.out,h5]) h
theorem Mn[hk:Kt.pC k]{o m:ab}{l:Y aR}[hz:jH P t m](hw:bO ops vs ⟨aO,.store t x y,ty,pos,af,g⟩=aN aP)(hx:fI vs x=aN (.pointer (aN ⟨bl,o,aO⟩)))(hy:fI vs y=aN v)[hf:FO H (aN ⟨bl,0,aO⟩) e sz n c xs rs](hl:cl v=aN l)(h1:l.length=m)(h2:nY l=aP)(h3:o+l.length<=xs.length)(h:X P b O (aN (ops,rest)) k ⟨N,vs,ds⟩ (own e sz (aN ⟨bl,0,aO⟩) n c (xs.take o++l++xs.drop (o+l.length))::rs) R):X P b O (aN (ops,⟨aO,.store t x y,ty,pos,af,g⟩::rest)) k ⟨N,vs,ds⟩ H R:=
 Mp U hw (λa w he hs=>by
  have e1:=bU he hx;have e2:=bU he hy;rcases eR (hs.dE hf.out)with⟨h0,_⟩|⟨g,cur,h4,h5,h6,h7,h8,h9,PA⟩
  ·cases h0
  ·cases h4;have hxl:xs.length<=cur.size:=by
    rw[<-h9,dG];simp;omega
   have ir:=run_storeCells_at P bl o e l 0 cur w (fF PA) bw (rD h2);have hc:=S8 hl;have zW:v.cells.size=m:=by rw[hc];simpa using h1
   simp only[Nat.add_zero]at ir;refine⟨w.setRow bl (cur.toList.take o++l++cur.toList.drop (o+l.length)).toArray,?_,?_⟩
   ·have h11:(Instr.storeAt t (.pointer (aN ⟨bl,o,aO⟩)) v).run P w=.ok () (w.setRow bl (cur.toList.take o++l++cur.toList.drop (o+l.length)).toArray):=by
     simp only[Instr.storeAt,gh,storeVar,cb,db,bJ,jR hz.out,zW,ne_eq,not_true_eq_false,aI];rw[hc];simpa using ir
    simp[aU,e1,e2,h11]
   ·have yN:cur.toList.length=cur.size:=dW;refine gY (Sat.setRow PA) ?_ h6 h7 ?_ ?_
    ·simp only[bK,dG,List.length_drop];rw[<-h5];omega
    ·simp only[eW,bK,dG,List.length_drop,yN];refine bo h8 ?_;omega
    ·have e3:n*sz=xs.length:=h5.symm;rw[e3];have e4:xs=cur.toList.take xs.length:=by rw[h5,h9]
     apply fq;intro j;have hgx:∀j,xs[j]?=if j<xs.length then cur.toList[j]? else aO:=by
      intro j;conv=>lhs;rw[e4]
      rw[List.getElem?_take]
     simp only[List.getElem?_take,List.getElem?_append,bK,dG,List.getElem?_drop,hgx,yN];by_cases j1:j<o
     ·simp[j1,show j<o+l.length from by omega,show j<xs.length from by omega,show j<cur.size from by omega,show o<=cur.size from by omega,show o<=xs.length from by omega,show j<min o cur.size+l.length from by omega,show j<min o xs.length+l.length from by omega,show j<min o cur.size from by omega,show j<min o xs.length from by omega]
     ·by_cases j2:j<o+l.length
      ·simp[j1,show j<o+l.length from by omega,show j<xs.length from by omega,show min o cur.size=o from by omega,show min o xs.length=o from by omega,j2]
      ·have e5:o+l.length+(j - (o+l.length))=j:=bw;have e6:min o cur.size=o:=bw;have e7:min o xs.length=o:=bw;simp only[e6,e7,e5,aj j2]) h
end
theorem map_eraseIdx{α O:Type}(f:α->O):∀(l:Y α) (i:ab),(l.eraseIdx i).map f=(l.map f).eraseIdx i
 |[],_=>rfl
 |_::_,0=>rfl
 |x::l,i+1=>by simp[map_eraseIdx f l i]
def KD{K:Type}(cC:K->aR)(M:Y (K×aR))(x:Obj):Prop:=
 ∃es oH,x=.map es oH/\es.toList.map (λe=>(e.key,e.val))=M.map (λp=>(cC p.1,p.2))/\(es.toList.map (·.born)).Nodup/\∀e∈es.toList,e.born<oH
def mp{K:Type}(cC:K->aR)(b:ab)(M:Y (K×aR)):bG:=
 ⟨λ_ o=>∃x,o b=aN x/\KD cC M x,λ_ ho ⟨x,h1,h2⟩=>⟨x,ho _ _ h1,h2⟩⟩
structure Keyed(P:aT)(kt:ab){K:Type}[aG K](cC:K->aR):Prop where
 check:∀(e:ai) (x:K) (w:aV),(iI e 10000 kt (cC x)).run P w=.ok () w
 find:∀(x:K) (es:Y MapEntry) (ks:Y K) (w:aV),es.map (·.key)=ks.map cC->
  (Instr.findKey kt (cC x) es).run P w=.ok ((ks.findIdx? (·=x)).bind λi=>(es[i]?).map λe=>(i,e.val)) w
 same:∀(x:K) (w:aV),(Instr.keyThatStays (cC x) (cC x)).run P w=.ok (cC x) w
class FM(H:Y bG)(b:ab){K:ay Type}(cC:ay (K->aR))(M:ay (Y (K×aR)))(rest:ay (Y bG)):Prop where out:bS H (mp cC b M::rest)
instance FM.here{K:Type}(cC:K->aR)(b:ab)(M:Y (K×aR))(H:Y bG):FM (mp cC b M::H) b cC M H:=⟨bS.refl _⟩
instance(priority:=low) FM.there(p:bG)(H:Y bG)(b:ab){K:Type}(cC:K->aR)(M:Y (K×aR))(rest:Y bG)[h:FM H b cC M rest]:FM (p::H) b cC M (p::rest):=
 ⟨(bS.cons p h.out).trans (eo _ _ _)⟩
theorem Sat.map{O:de}{H:Y bG}{w:aV}{cC:K->aR}{b:ab}{M:Y (K×aR)}(h:Sat O (mp cC b M::H) w):
 ∃x,KD cC M x/\Sat O (Sl.pt b x::H) w:=by
 obtain⟨r,o,h0,hf,⟨o1,o2,hd,h1,h2,⟨x,hx,hm⟩,ir⟩,qK⟩:=h
 exact⟨x,hm,r,o,h0,hf,⟨o1,o2,hd,h1,h2,hx,ir⟩,qK⟩
theorem om{O:de}{H:Y bG}{w:aV}{cC:K->aR}{b:ab}{M:Y (K×aR)}{x:Obj}(h:Sat O (Sl.pt b x::H) w)(hm:KD cC M x):Sat O (mp cC b M::H) w:=by
 obtain⟨r,o,h0,hf,⟨o1,o2,hd,h1,h2,hx,ir⟩,qK⟩:=h;exact⟨r,o,h0,hf,⟨o1,o2,hd,h1,h2,⟨x,hx,hm⟩,ir⟩,qK⟩
theorem Sat.setObj{O:de}{H:Y bG}{w:aV}{b:ab}{x y:Obj}(h:Sat O (Sl.pt b x::H) w):Sat O (Sl.pt b y::H) {w with heap:=w.heap.setIfInBounds b y}:=by
 have hb:=fF h
 have vz:=(fB.1 hb).1
 refine Sat.put h ⟨U,U,U,by simp,λ_=>bz _⟩ (by simp[vz]) ?_
 grind
def gM{K:Type}[aG K](M:Y (K×aR))(x:K):ah aR:=(M.find? (·.1=x)).map (·.2)
def iT{K:Type}[aG K](M:Y (K×aR))(x:K)(v:aR):Y (K×aR):=
 match M.findIdx? (·.1=x)with
 |some i=>M.set i (x,v)
 |none=>M++[(x,v)]
def vB{K:Type}[aG K](M:Y (K×aR))(x:K):Y (K×aR):=
 match M.findIdx? (·.1=x)with
 |some i=>M.eraseIdx i
 |none=>M
section
variable {P:aT}{w:aV}{kt et:ab}{K:Type}[aG K]{cC:K->aR}
theorem wh{M:Y (K×aR)}{es:Y MapEntry}(h:es.map (λe=>(e.key,e.val))=M.map (λp=>(cC p.1,p.2)))(hk:Keyed P kt cC)(x:K):
 (Instr.findKey kt (cC x) es).run P w=.ok ((M.findIdx? (·.1=x)).bind λi=>(es[i]?).map λe=>(i,e.val)) w:=by
 have h1:es.map (·.key)=(M.map (·.1)).map cC:=by
  have:=aH (List.map Prod.fst) h;simpa[dK,Function.comp_def]using this
 rw[hk.find x es (M.map (·.1)) w h1]
 congr 2
 rw[List.findIdx?_map]
 rfl
theorem wi{M:Y (K×aR)}{es:Y MapEntry}(h:es.map (λe=>(e.key,e.val))=M.map (λp=>(cC p.1,p.2)))(x:K):
 ((M.findIdx? (·.1=x)).bind λi=>(es[i]?).map λe=>(i,e.val))=(M.findIdx? (·.1=x)).bind λi=>(M[i]?).map λp=>(i,p.2):=by
 congr 1
 funext i
 have:=aH (λl=>l[i]?) h
 simp only[eX]at this
 cases h1:es[i]?<;>cases h2:M[i]?<;>simp[h1,h2]at this ⊢
 exact this.2
theorem np{M:Y (K×aR)}{x:K}(h:M.findIdx? (·.1=x)=aN i)(v:aR):iT M x v=M.set i (x,v):=by simp[iT,h]
theorem nr{M:Y (K×aR)}{x:K}(h:M.findIdx? (·.1=x)=aO)(v:aR):iT M x v=M++[(x,v)]:=by simp[iT,h]
theorem Et{M:Y (K×aR)}{x:K}:gM M x=(M.findIdx? (·.1=x)).bind λi=>(M[i]?).map (·.2):=by
 induction M with
 |nil=>simp[gM]
 |cons p r ih=>
  by_cases hp:p.1=x
  ·grind [gM]
  ·simp only[gM,List.find?_cons,hp,decide_false,List.findIdx?_cons,di,aI]at ih ⊢;rw[ih];cases r.findIdx? (·.1=x)<;>simp
theorem Fk{O:de}{H:Y bG}{b:ab}{M:Y (K×aR)}[ht:zV P t kt et](hk:Keyed P kt cC)(h:Sat O (mp cC b M::H) w)(x:K)(v:aR):
 ∃w',(Instr.mapUpdate t (.map (aN b)) (cC x) v).run P w=.ok () w'/\Sat O (mp cC b (iT M x v)::H) w':=by
 obtain⟨o,⟨es,oH,rfl,h1,h2,h3⟩,hs⟩:=Sat.map h
 have hb:=fF hs
 have hf:=wh (P:=P) (w:=w) h1 hk x
 rw[wi h1]at hf
 have hlen:es.size=M.length:=bE5
 cases hi:M.findIdx? (·.1=x)with
 |none=>
  rw[hi]at hf;refine⟨{w with heap:=w.heap.setIfInBounds b (.map (es.push {key:=cC x,val:=v,born:=oH}) (oH+1))},?_,?_⟩
  ·simp only[Instr.mapUpdate,cb,cI ht.out,bJ,getObj,gz,hb,hk.check,hf,Option.bind_none,setObj]
  ·rw[nr hi];refine om (Sat.setObj hs) ⟨_,_,U,?_,?_,?_⟩;all_goals grind
 |some i=>
  rw[hi]at hf;have PB:i<M.length:=by
   grind [cA]
  have hie:i<es.size:=bw;have Qg:M[i]?=aN M[i]:=bX PB;have B7:M[i].1=x:=by
   grind [cA]
  have hek:(es[i]?).map (·.key)=aN (cC x):=by
   have:=aH (λl=>l[i]?) h1;simp only[eX,Qg,eE]at this;cases h4:es[i]? with
   |none=>rw[h4]at this;simp at this
   |some e=>rw[h4]at this;simp at this;simp[this.1,B7]
  simp only[Option.bind_some,Qg,cO]at hf;refine⟨{w with heap:=w.heap.setIfInBounds b (.map (es.modify i λe=>{e with key:=cC x,val:=v}) oH)},?_,?_⟩
  ·simp only[Instr.mapUpdate,cb,cI ht.out,bJ,getObj,gz,hb,hk.check,hf,Option.bind_some,cO,hek,dz,hk.same,setObj]
  ·rw[np hi]
   refine om (Sat.setObj hs) ⟨_,_,U,?_,?_,?_⟩
   ·apply fq;intro j;have h5:=aH (λl=>l[j]?) h1;simp only[eX,eE]at h5 ⊢;rw[fW,List.getElem?_set];by_cases Av:i=j
    ·subst Av;simp[PB,hie]
    ·simp[Av,h5]
   ·have:(es.modify i λe=>{e with key:=cC x,val:=v}).toList.map (·.born)=es.toList.map (·.born):=by
     apply fq
     grind
    grind
   grind [List.getElem?_of_mem]
theorem Qh{O:de}{H:Y bG}{b:ab}{M:Y (K×aR)}{ty:ab}[ht:zV P t kt et](hts:ts[0]?=aN t)(hk:Keyed P kt cC)(h:Sat O (mp cC b M::H) w)(x:K):
 ∃w',(Builtin.delete_ ts ty #[.map (aN b),cC x]).run P w=.ok (.tuple #[]) w'/\Sat O (mp cC b (vB M x)::H) w':=by
 obtain⟨o,⟨es,oH,rfl,h1,h2,h3⟩,hs⟩:=Sat.map h
 have hb:=fF hs
 have hf:=wh (P:=P) (w:=w) h1 hk x
 rw[wi h1]at hf
 cases hi:M.findIdx? (·.1=x)with
 |none=>
  rw[hi]at hf;refine⟨{w with heap:=w.heap.setIfInBounds b (.map es oH)},?_,?_⟩
  ·exact aU3
  ·have:vB M x=M:=by simp[vB,hi]
   rw[this];exact om (Sat.setObj hs) ⟨_,_,U,h1,h2,h3⟩
 |some i=>
  rw[hi]at hf;have PB:i<M.length:=(cA.1 hi).1;have Qg:M[i]?=aN M[i]:=bX PB;simp only[Option.bind_some,Qg,cO]at hf;refine⟨{w with heap:=w.heap.setIfInBounds b (.map (es.eraseIdxIfInBounds i) oH)},?_,?_⟩
  ·exact aU3
  ·have:vB M x=M.eraseIdx i:=by simp[vB,hi]
   rw[this];have Ia:(es.eraseIdxIfInBounds i).toList=es.toList.eraseIdx i:=by
    simp_all
   refine om (Sat.setObj hs) ⟨_,_,U,?_,?_,?_⟩;all_goals grind [map_eraseIdx]
end
def UR:Y aW->Y ab
 |[]=>[]
 |o::r=>match o.dst with
  |some d=>d::UR r
  |none=>UR r
def Tf(d:ab):Y ab->ai
 |[]=>aP
 |e::r=> !eU d e&&Tf d r
def fresh(vs:Y (ab×aR))(N:ab):Y aW->ai
 |[]=>aP
 |o::r=>match o.dst with
  |some d=>(lk vs d).isSome&&bM d N&&Tf d (UR r)&&fresh vs N r
  |none=>aQ
def Fl{α:Type}(p:α->ai):Y α->ai
 |[]=>aP
 |x::r=>p x&&Fl p r
def YB{α:Type}(p:α->ai):Y α->ai
 |[]=>aQ
 |x::r=>p x||YB p r
theorem ra{α:Type}(p:α->ai):∀l:Y α,Fl p l=l.all p
 |[]=>rfl
 |x::r=>by simp[Fl,ra p r]
theorem KE{α:Type}(p:α->ai):∀l:Y α,YB p l=l.any p
 |[]=>rfl
 |x::r=>by simp[YB,KE p r]
def YC(ops:ar aW):ai:=Fl (λo=>match o.op with|.select ..=>aQ|_=>aP) ops.toList
theorem YD{ops:ar aW}(h:YC ops=aP):Region.noSelect ops=aP:=by
 grind [YC,ra,Region.noSelect]
def y5:ab->Y ab->ai
 |_,[]=>aQ
 |i,x::r=>eU x i||y5 i r
def ay4(ops:ar aW)(done:Y ab)(i:ab):ai:=
 !y5 i done&&match ops[i]? with
  |some o=>Fl (λe=> !Region.binds .any e||y5 e.on done) o.after.toList
  |none=>aQ
def tR(ops:ar aW)(done:Y ab):Y ab->Y ab
 |[]=>[]
 |i::r=>match ay4 ops done i with
  |true=>i::tR ops done r
  |false=>tR ops done r
def upto:ab->Y ab->Y ab
 |0,l=>l
 |n+1,l=>upto n (n::l)
theorem Eu:∀(n:ab) (l:Y ab),upto n l=List.range n++l
 |0,l=>by simp[upto]
 |n+1,l=>by rw[upto,Eu n,List.range_succ];simp
theorem MB{i:ab}:∀{l:Y ab},y5 i l=aP↔i∈l
 |[]=>by simp[y5]
 |x::r=>by
  simp only[y5,Bool.or_eq_true,cW,MB (l:=r)];have:(eU x i=aP)↔i=x:=by
   constructor
   ·intro h;exact(fX h).symm
   ·rintro rfl;simp
  rw[this]
theorem IQ(n:ab):∀l:Y ab,(mark n l).size=n
 |[]=>by simp[mark]
 |i::r=>by simp[mark,IQ n r]
theorem Aw{n i:ab}(hi:i<n):∀(l:Y ab) (d:ai),(mark n l).getD i d=y5 i l
 |[],d=>by simp[mark,y5,hi]
 |x::r,d=>by
  by_cases hx:x=i
  ·subst hx;have h1:x<(mark n r).size:=by grind [IQ]
   have h2:eU x x=aP:=dW;simp[mark,y5,h1]
  ·have h2:eU x i=aQ:=beq_false hx;simp only[mark,y5,h2,Bool.false_or];rw[getD_set_ne d hx];exact Aw hi r d
def nV(ops:ar aW):ai:=Fl (λo=>Fl (λe=>bM e.on ops.size) o.after.toList) ops.toList
theorem Qi{ops:ar aW}(h:nV ops=aP){o:aW}(ho:ops[i]?=aN o){e:Edge}(he:e∈o.after):e.on<ops.size:=by
 unfold nV at h;rw[ra,gi]at h;have h1:=h o (by have:=Array.mem_of_getElem? ho;simpa using this);rw[ra,gi]at h1;simp_all
theorem Tg{ops:ar aW}(hE:nV ops=aP)(hi:i<ops.size):
 (!(mark ops.size done).getD i aP&&((ops[i]?).map (·.after.all λe=> !Region.binds .any e||(mark ops.size done).getD e.on aQ)).getD aQ)=ay4 ops done i:=by
 rw[Aw hi]
 unfold ay4
 congr 1
 cases ho:ops[i]? with
 |none=>rfl
 |some o=>
  simp only[cO,dz]
  rw[ra,<-Array.all_toList]
  rw[Bool.eq_iff_iff,gi,gi]
  have:∀e∈o.after.toList,(!Region.binds .any e||(mark ops.size done).getD e.on aQ)=(!Region.binds .any e||y5 e.on done):=by
   intro e he;rw[Aw (Qi hE ho bQ)]
  grind
theorem Th{ops:ar aW}(hE:nV ops=aP):Region.ready .any ops (mark ops.size done)=tR ops done (upto ops.size []):=by
 unfold Region.ready
 rw[Eu,bj]
 have:∀l:Y ab,(∀i∈l,i<ops.size)->(l.filter λi=> !(mark ops.size done).getD i aP&&((ops[i]?).map (·.after.all λe=> !Region.binds .any e||(mark ops.size done).getD e.on aQ)).getD aQ)=tR ops done l:=by
  intro l;induction l<;>grind [Tg,tR]
 grind
def D6(ops:ar aW)(done:Y ab)(i:ab):ai:=
 match ops[i]? with
 |none=>aQ
 |some oi=>Fl (λj=>eU j i||y5 j done||match ops[j]? with
  |some oj=>YB (λe=>Region.binds .any e&&eU e.on i) oj.after.toList||Qj ops oi oj
  |none=>aP) (upto ops.size [])
where
 KF (ops:ar aW) (o:aW):Y Tmp:=
  (tmps o.op.operands.toList)++(match o.guard with
   |some (g,_)=>match(ops[g]?).bind (·.dst)with
    |some d=>[d]
    |none=>[]
   |none=>[])
 tmps:Y aY->Y Tmp
  |[]=>[]
  |.tmp t::r=>t::tmps r
  |_::r=>tmps r
 Qj (ops:ar aW) (x y:aW):ai:=
  (match x.dst with
   |some d=> !y5 d (KF ops y)&&(match y.dst with|some e=> !eU e d|none=>aP)
   |none=>aP)&&
  (match y.dst with
   |some d=> !y5 d (KF ops x)
   |none=>aP)
theorem Ax:∀l:Y aY,D6.tmps l=l.filterMap fun|.tmp t=>aN t|_=>aO
 |[]=>rfl
 |.tmp t::r=>by simp[D6.tmps,Ax r]
 |.const v::r=>by simp[D6.tmps,Ax r]
 |.global v::r=>by simp[D6.tmps,Ax r]
 |.func v::r=>by simp[D6.tmps,Ax r]
theorem MC(ops:ar aW)(o:aW):D6.KF ops o=o.looksAt ops:=by
 grind [D6.KF,Oper.looksAt,Ax]
theorem yO(i:ab)(l:Y ab):y5 i l=l.contains i:=by
 grind [MB]
theorem YE(ops:ar aW)(x y:aW):D6.Qj ops x y=x.apart ops y:=by
 unfold D6.Qj Oper.apart
 rw[MC,MC]
 congr 1
 ·cases x.dst with
  |none=>rfl
  |some d=>
   dsimp only;rw[yO];congr 1;cases y.dst with
   |none=>simp
   |some e=>
    by_cases he:e=d
    ·simp_all
    grind [beq_false]
 grind [yO]
theorem ay5{ops:ar aW}(h:D6 ops done i=aP):Region.free .any ops (mark ops.size done) i=aP:=by
 unfold D6 at h;unfold Region.free;cases ho:ops[i]? with
 |none=>grind
 |some oi=>
  rw[ho]at h
  dsimp only at h ⊢
  rw[ra,Eu,bj,gi]at h
  rw[gi]
  intro j hj
  have h1:=h j hj
  have hj':j<ops.size:=List.mem_range.1 hj
  rw[Aw hj']
  simp only[Bool.or_eq_true]at h1 ⊢
  rcases h1 with(h1|h1)|h1
  ·simp_all
  ·grind
  ·refine .inr ?_;cases hoj:ops[j]? with
   |none=>rfl
   |some oj=>
    rw[hoj]at h1;dsimp only at h1 ⊢;rw[KE,YE]at h1;simp_all
def YF(T:ab->ai)(ops:ar aW)(j:ab):ai:=
 Fl (λi=> !T i||eU i j||match ops[j]? with
  |some oj=>YB (λe=>Region.binds .any e&&eU e.on i) oj.after.toList
  |none=>aQ) (upto ops.size [])
theorem YG{ops:ar aW}(h:YF T ops j=aP):late T ops j=aP:=by
 unfold YF at h
 unfold late
 rw[ra,Eu,bj,gi]at h
 rw[gi]
 intro i hi
 have h1:=h i hi
 simp only[Bool.or_eq_true]at h1 ⊢
 rcases h1 with(h1|h1)|h1
 ·grind
 ·simp_all
 ·refine .inr ?_;cases hoj:ops[j]? with
  |none=>grind
  |some oj=>
   rw[hoj]at h1;dsimp only at h1 ⊢;rw[KE,List.any_eq_true]at h1;rw[<-Array.any_toList,List.any_eq_true];simp_all
def KG(ops:ar aW)(T:ab->ai):Y ab->Y ab->Y aW->ai
 |_,[],[]=>aP
 |done,i::is,o::os=>T i&&(bM i ops.size&&ay4 ops done i)&&D6 ops done i&&bM done.length ops.size&&KG ops T (i::done) is os
 |_,_,_=>aQ
def Ti(ops:ar aW):Y ab->ah (Y aW)
 |[]=>aN []
 |i::r=>match ops[i]? with
  |some o=>match Ti ops r with
   |some l=>aN (o::l)
   |none=>aO
  |none=>aO
def Ev:Y ab->Y ab->Y ab
 |[],l=>l
 |x::r,l=>Ev r (x::l)
theorem MD{d:ab}:∀{l:Y ab},Tf d l=aP->d∉l
 |[],_=>by simp
 |e::r,h=>by
  simp only[Tf,Bool.and_eq_true,Bool.not_eq_true']at h;intro hm;rcases cW.1 hm with rfl|hm
  ·simp at h
  ·exact MD h.2 hm
section
variable{P:aT}
theorem S6{p:Act->Prop}:∀{os:Y aW} {a:Act} {w:aV},RL P ops (λa' _=>p a') os a w->∃a',p a'/\∀t,t∉UR os->a'.tmps[t]?=a.tmps[t]?
 |[],a,w,h=>⟨a,h,λ_ _=>rfl⟩
 |o::r,a,w,h=>by
  have key:∀v,RL P ops (λa' _=>p a') r (a.put o.dst v) w->∃a',p a'/\∀t,t∉UR (o::r)->a'.tmps[t]?=a.tmps[t]?:=by
   intro v hv
   obtain⟨a',h1,h2⟩:=S6 hv
   grind [UR,Act.put]
  rcases h with⟨_,v,_,hr⟩|⟨_,hr⟩;all_goals grind
theorem Fm{Q:Exit->Act->aV->Prop}{T:ab->ai}{S:aV->Prop}{E':Env}(Ew:nV ops=aP)(Qb:Region.noSelect ops=aP)
 (hQ:∀o∈ops.toList,∀v c a w,Q (.panic c) (a.put o.dst v) w->Q (.panic c) a w):
 ∀(is:Y ab) (os:Y aW) (done:Y ab) (A:Act->Prop),Ti ops is=aN os->KG ops T done is os=aP->fresh E'.vs E'.n os=aP->
  (∀a,A a->a.tmps.size=E'.n)->(∀a w,A a->S w->RL P ops (λa' _=>ik E' a') os a w)->
  ∀a w,A a->S w->(∀a',ik E' a'->rR P ops Q T S (ops.size - (Ev is done).length) (mark ops.size (Ev is done)) a' w)->rR P ops Q T S (ops.size - done.length) (mark ops.size done) a w
 |[],[],done,A,_,_,_,hn,h,a,w,ha,hs,hk=>hk a (h a w ha hs)
 |[],o::os,done,A,hp,_,_,_,_,_,_,_,_,_=>by cases hp
 |i::is,[],done,A,hp,hc,_,_,_,_,_,_,_,_=>by cases hc
 |i::is,o::os,done,A,hp,hc,hf,hn,h,a,w,ha,hs,hk=>by
  simp only[Ti]at hp;split at hp
  ·rename_i o' ho;split at hp
   ·rename_i l hl;cases hp;simp only[KG,Bool.and_eq_true]at hc;obtain⟨⟨⟨⟨h1,h2⟩,h3⟩,h4⟩,h5⟩:=hc;simp only[fresh]at hf;split at hf
    ·rename_i d hd
     simp only[Bool.and_eq_true]at hf
     obtain⟨⟨⟨f1,f2⟩,f3⟩,f4⟩:=hf
     obtain⟨u,hu⟩:=Option.isSome_iff_exists.1 f1
     have f3:=MD f3
     have vz:d<E'.n:=bH f2
     have val:∀v w,RL P ops (λa' _=>ik E' a') os (a.put (aN d) v) w->v=u:=by
      intro v w hr
      obtain⟨a',e1,e2⟩:=S6 hr
      have e3:=e1.2.2 d u hu
      grind [Act.put]
     have hy:YieldsIf P ops S o u a:=by
      rcases Bool.eq_false_or_eq_true (Region.wanted o (yielded ops a.tmps))with hw|hw
      ·refine .inl ⟨hw,λw hs=>?_⟩;rcases h a w ha hs with⟨_,v,hv,hr⟩|⟨hw',_⟩;all_goals grind
      ·refine .inr ⟨hw,?_⟩;rcases h a w ha hs with⟨hw',_⟩|⟨_,hr⟩;all_goals grind
     have h4':done.length<ops.size:=bH h4
     have YH:ops.size - done.length=(ops.size - (i::done).length)+1:=bQ
     rw[YH]
     refine Kx (v:=u) ho h1 (Region.noSelect_spec Qb) (λc a w hq=>hQ o bQ _ c a w hq) _ _ _ _ (Region.free_spec ho (ay5 h3)) (by
      grind [Region.ready,Tg]) hy hs ?_
     refine Fm Ew Qb hQ is os (i::done) (λa'=>∃a,A a/\a'=a.put o.dst u/\∀w,S w->RL P ops (λa' _=>ik E' a') os (a.put o.dst u) w) hl h5 f4 ?_ ?_ _ w ⟨a,ha,U,?_⟩ hs ?_
     ·grind [Act.put]
     ·grind
     ·intro w hs;rcases h a w ha hs with⟨_,v,hv,hr⟩|⟨_,hr⟩;all_goals grind
     ·exact hk
    ·cases hf
   ·cases hp
  ·cases hp
end
section
variable{P:aT}{k:Y Item}{vs:Y (ab×aR)}
class Tj(P:aT):Prop where out:P.follows .mixedOrders=aP
theorem UD{O:de}{H:Y bG}{w:aV}(h:Sat O H w):Sat O H {w with drawn:=w.drawn+1}:=by
 exact h.heap U U U U (iz _)
theorem bS.nil:∀(H:Y bG),bS H []
 |[]=>bS.refl _
 |p::r=>(bS.drop p r).trans (bS.nil r)
theorem ia:∀(A F:Y bG),bS (A++F) A
 |[],F=>bS.nil F
 |p::A,F=>bS.cons p (ia A F)
class FP(H:Y bG)(p:bG)(rest:ay (Y bG)):Prop where out:bS H (p::rest)
instance FP.here(p:bG)(H:Y bG):FP (p::H) p H:=⟨bS.refl _⟩
instance(priority:=low) FP.there(q p:bG)(H rest:Y bG)[h:FP H p rest]:FP (q::H) p (q::rest):=⟨(bS.cons q h.out).trans (eo _ _ _)⟩
class ES(H:Y bG)(A:Y bG)(F:ay (Y bG)):Prop where out:bS H (A++F)
instance ES.nil(H:Y bG):ES H [] H:=⟨bS.refl _⟩
instance ES.cons(H Hs':Y bG)(p:bG)(A F:Y bG)[h1:FP H p Hs'][h2:ES Hs' A F]:ES H (p::A) F:=⟨h1.out.trans (bS.cons p h2.out)⟩
theorem bS.es{H A:Y bG}[h:ES H A F]:bS H (A++F):=h.out
theorem bA{H A:Y bG}[h:ES H A F]:bS H A:=h.out.trans (ia A F)
def sG:Y ab->ab->ai
 |[],_=>aQ
 |x::r,i=>eU x i||sG r i
theorem ME{Q:Exit->Act->aV->Prop}(ro:ah ab)(hd:∀o∈ops.toList,∀c,o.op≠.defer c)(hno:¬LetsOut Q):∀(fuel:ab) (listed:ar ai) (a:Act) (w:aV),wpAny P .any ops Q fuel listed a w->wpAnyIn (Fw ro) 0 P .any ops Q fuel listed a w
 |0,_,_,_,h=>h
 |fuel+1,listed,a,w,h=>by
  refine⟨h.1,λi hi=>?_⟩;have h1:=h.2 i hi;refine wpOpIn_mono (λa' w' h'=>ME ro hd hno fuel _ a' w' h') ?_;unfold wpOp at h1;unfold wpOpIn;cases ho:ops[i]? with
  |none=>rw[ho]at h1;exact h1
  |some o=>
   rw[ho]at h1;have hm:o∈ops.toList:=by
    obtain⟨vz,he⟩:=fB.1 ho;rw[<-he];simp
   dsimp only at h1 ⊢;split
   ·rename_i hw;rw[ao hw]at h1;exact P3 ro (hd o hm) (h1.resolve_right λhh=>hno hh.2)
   ·rename_i hw;rw[aj hw]at h1;exact⟨λ_ _=>trivial,h1⟩
theorem fG[hm:Tj P]{E:Env}{id:ab}(T:ab->ai)(Fx:Y bG)(j7:Dh ops.toList=aP)(h:X P b O aO (.dr ops T Fx [] k) E H R):X P b O aO (.it (.code (.region id ops aP)::k)) E H R:=by
 intro hb a w he hs;refine yy.of_wp (Q:=QD P b O ops k R) (wpIn_region_any hm.out (ME b.roundOf (Mv j7) (by rintro⟨_,_,h⟩;exact h) _ _ _ _ (Fg (T:=T) (S:=Sat O Fx) _ _ _ _ ?_))) (λ_ _ h=>h) (λ_ _ _ h=>h _ U U (λ_ _=>rfl)) (λ_ _ h=>h) (λ_ _ _ h=>h) (λ_ _ _ h=>h) (λ_ _ h=>h);exact h hb a _ he (UD hs)
theorem dB(is:Y ab){os:Y aW}{BP:Y (ab×aR)}(hp:Ti ops is=aN os)[hE:ES H Fx F](Qb:YC ops=aP)(Ew:nV ops=aP)(hX:∀p,X P b O aO (.pr p) ⟨N,BP,ds⟩ Fx R->X P b O (aN (ops,os)) (.pr p) ⟨N,vs,ds⟩ Fx R)(hc:KG ops T done is os=aP)(hf:fresh BP N os=aP)(h:X P b O aO (.dr ops T Fx (Ev is done) k) ⟨N,BP,ds⟩ H R):X P b O aO (.dr ops T Fx done k) ⟨N,vs,ds⟩ H R:=by
 intro hb a w he hs
 refine Fm (E':=⟨N,BP,ds⟩) Ew (YD Qb) ?_ is os done (ik ⟨N,vs,ds⟩) hp hc hf (λa ha=>ha.1) ?_ a w he ?_ ?_
 ·intro o ho v c a w hq a' e1 e2 e3;refine hq a' (e1.trans ?_) (e2.trans ?_) (λt ht=>(e3 t ht).trans ?_)
  ·cases o.dst<;>simp[Act.put]
  ·cases o.dst<;>simp[Act.put]
  ·cases hd:o.dst with
   |none=>rfl
   |some d=>
    have:d≠t:=by rintro rfl;exact ht ⟨o,ho,hd⟩
    grind [Act.put]
 ·intro a w he hs;exact hX (λa' _=>ik ⟨N,BP,ds⟩ a') (λ_ a w he _=>he) hb a w he hs
 ·exact(hs.dE hE.out).dE (ia _ _)
 ·intro a' Ib;exact h hb a' w Ib hs
theorem Kj{E:Env}(Ew:nV ops=aP)(hr:tR ops done (upto ops.size [])=[])(h:X P b O aO (.it k) E H R):X P b O aO (.dr ops T Fx done k) E H R:=by
 rw[<-Th Ew]at hr;intro hb a w he hs;have h1:=h hb a w he hs;show rR _ _ _ _ _ _ _ _ _;generalize ops.size - done.length=n;cases n with
 |zero=>exact⟨hr,h1⟩
 |succ n=>exact⟨λ_=>h1,by rw[hr];simp⟩
def YI(p:ab->Prop):Y ab->Prop
 |[]=>True
 |[i]=>p i
 |i::r=>p i/\YI p r
theorem IL{p:ab->Prop}:∀{l:Y ab},YI p l->∀i∈l,p i
 |[],_,i,hi=>by cases hi
 |[j],h,i,hi=>by simp at hi;subst hi;exact h
 |j::x::r,h,i,hi=>by
  rcases cW.1 hi with rfl|hi
  ·exact h.1
  ·exact IL (l:=x::r) h.2 i hi
def oneOf(ops:ar aW)(i:ab):Y aW:=match ops[i]? with
 |some o=>[o]
 |none=>[]
theorem PT{E:Env}{rs:Y ab}(Ew:nV ops=aP)(hr:tR ops done (upto ops.size [])=rs)(hn:bM done.length ops.size=aP)(mf:rs.isEmpty=aQ)(h:YI (λi=>X P b O (aN (ops,oneOf ops i)) (.uv ops T Fx i (i::done) k) E H R) rs):X P b O aO (.dr ops T Fx done k) E H R:=by
 rw[<-Th Ew]at hr
 intro hb a w he hs
 have hn:done.length<ops.size:=bH hn
 show rR _ _ _ _ _ _ _ _ _
 have YH:ops.size - done.length=(ops.size - (done.length+1))+1:=bw
 rw[YH]
 refine⟨λh0=>?_,λi hi=>?_⟩
 ·grind
 ·rw[hr]at hi;have h1:=(IL h i hi) hb a w he hs;unfold wpOp;unfold oneOf at h1;cases ho:ops[i]? with
  |none=>
   rw[ho]at h1;exact h1
  |some o=>
   rw[ho]at h1;have h2:wpList P ops (QK P b O (.uv ops T Fx i (i::done) k) R) [o] a w:=h1;unfold wpList at h2;dsimp only;split
   ·rename_i hw;rw[hw]at h2;rcases h2 with h2|⟨_,h2⟩
    ·refine .inl ?_;unfold Oper.wp at h2 ⊢;generalize(aU a.eval o).run P w=r at h2 ⊢;cases r with
     |ok n w'=>
      cases n<;>simp only[Oper.upon]at h2 ⊢<;>exact h2
     |halt x w'=>cases x<;>simp only[Oper.upon]at h2 ⊢<;>exact h2
    ·obtain⟨_,_,h⟩:=h2;exact h.elim
   ·rename_i hw;rw[aj hw]at h2;exact h2
theorem nU{E:Env}(Ew:nV ops=aP)(hr:tR ops done (upto ops.size [])=[i])(hn:bM done.length ops.size=aP)(ho:oneOf ops i=o)(h:X P b O (aN (ops,o)) (.uv ops T Fx i (i::done) k) E H R):X P b O aO (.dr ops T Fx done k) E H R:=PT Ew hr hn U (by subst ho;exact h)
theorem eN{E:Env}{o':Y aW}(Ew:nV ops=aP)(hr:tR ops done (upto ops.size [])=[i,j])(hn:bM done.length ops.size=aP)(ho:oneOf ops i=o)(ho':oneOf ops j=o')(h:X P b O (aN (ops,o)) (.uv ops T Fx i (i::done) k) E H R)(h':X P b O (aN (ops,o')) (.uv ops T Fx j (j::done) k) E H R):X P b O aO (.dr ops T Fx done k) E H R:=PT Ew hr hn U (by subst ho;subst ho';exact⟨h,h'⟩)
theorem X.uv{E:Env}[hE:ES H Fx F](h:X P b O aO (.dr ops T Fx done k) E H R):X P b O aO (.uv ops T Fx i done k) E H R:=
 λhb a w he hs=>⟨.inr ((hs.dE hE.out).dE (ia _ _)),h hb a w he hs⟩
theorem bm8{E:Env}(hl:YF T ops i=aP)(h:X P b O aO (.dr ops T Fx done k) E H R):X P b O aO (.uv ops T Fx i done k) E H R:=
 λhb a w he hs=>⟨.inl (YG hl),h hb a w he hs⟩
end
theorem xp(l:Y au):(⟨l.toArray⟩:aJ).toList=l:=by
 simp_all
theorem US(l m:Y au):(⟨l.toArray⟩:aJ)++⟨m.toArray⟩=⟨(l++m).toArray⟩:=by
 apply ByteArray.ext;simp[ByteArray.data_append]
theorem Ay(l:Y au):(⟨l.toArray⟩:aJ).size=l.length:=bp0
theorem sW:∃n,∀t x y,Op.equal t x y=gq (n+1) t x y:=⟨9999,λ_ _ _=>rfl⟩
abbrev dX(v:aR):aZ->Y bG->Prop:=dC λu B=>u=v/\B=[]
class EK(H A:Y bG):Prop where out:bS H (A++H)
instance EK.nil(H:Y bG):EK H []:=⟨bS.refl _⟩
theorem bS.app:∀(A:Y bG) {F F':Y bG},bS F F'->bS (A++F) (A++F')
 |[],_,_,h=>h
 |p::A,_,_,h=>bS.cons p (bS.app A h)
instance EK.ro(H A r:Y bG)(p:Hp->Prop)[h1:FP H (ro p) r][h2:EK H A]:EK H (ro p::A):=⟨by
 intro rr o hs;have h3:=h2.out rr o hs;obtain⟨o1,o2,_,_,_,hp,_⟩:=h1.out rr o hs;exact⟨gI,o,ef _,dQ _,.refl _,hp,h3⟩⟩
instance EK.dp{α:Type}(H A r:Y bG)(Re:Rp α)(sz:ab)(a:ah aX)(xs:Y α)[h1:FP H (dp Re sz a xs) r][h2:EK H A]:EK H (dp Re sz a xs::A):=
 EK.ro H A r _ (h1:=h1)
section
variable{P:aT}{vs:Y (ab×aR)}{rest:Y aW}
theorem bC0(hw:bO ops vs ⟨aN d,.binOp .add t x y t',ty,pos,af,g⟩=aN aP)(hn:bM d N=aP)(hx:fI vs x=aN (bn l))(hy:fI vs y=aN (bn m))(hb:l.length+m.length<=9223372036854775807)(h:X P b O (aN (ops,rest)) k ⟨N,(d,bn (l++m))::vs,ds⟩ H R):X P b O (aN (ops,⟨aN d,.binOp .add t x y t',ty,pos,af,g⟩::rest)) k ⟨N,vs,ds⟩ H R:=
 X.val U hn hw (λa w he _=>by
  have e1:=bU he hx;have e2:=bU he hy;have e3:¬((((⟨l.toArray⟩:aJ).size+(⟨m.toArray⟩:aJ).size:ab):ae)>eu.max):=by
   rw[Ay,Ay,show eu.max=9223372036854775807 from by decide];omega
  simp only[aU,e1,e2,eqGuard,binOp,Op.stringOp,aj e3,US];simp) h
theorem X.seq(hw:bO ops vs ⟨aN d,.binOp .eql t x y t',ty,pos,af,g⟩=aN aP)(hn:bM d N=aP)(hx:fI vs x=aN (bn l))(hy:fI vs y=aN (bn m))(h:X P b O (aN (ops,rest)) k ⟨N,(d,.bool (l==m))::vs,ds⟩ H R):X P b O (aN (ops,⟨aN d,.binOp .eql t x y t',ty,pos,af,g⟩::rest)) k ⟨N,vs,ds⟩ H R:=
 X.val U hn hw (λa w he _=>by
  have e1:=bU he hx;have e2:=bU he hy;simp only[aU,e1,e2,eqGuard,binOp,Op.stringOp,xp];simp) h
theorem bC3(hw:bO ops vs ⟨aN d,.binOp .neq t x y t',ty,pos,af,g⟩=aN aP)(hn:bM d N=aP)(hx:fI vs x=aN (bn l))(hy:fI vs y=aN (bn m))(h:X P b O (aN (ops,rest)) k ⟨N,(d,.bool (!(l==m)))::vs,ds⟩ H R):X P b O (aN (ops,⟨aN d,.binOp .neq t x y t',ty,pos,af,g⟩::rest)) k ⟨N,vs,ds⟩ H R:=
 X.val U hn hw (λa w he _=>by
  have e1:=bU he hx;have e2:=bU he hy;simp only[aU,e1,e2,eqGuard,binOp,Op.stringOp,xp];simp) h
theorem Mj[ht:qm P t](hw:bO ops vs ⟨aN d,.call ⟨.builtin .len,#[x],#[t]⟩,ty,pos,af,g⟩=aN aP)(hn:bM d N=aP)(hx:fI vs x=aN (bn l))(h:X P b O (aN (ops,rest)) k ⟨N,(d,.int .i64 l.length)::vs,ds⟩ H R):X P b O (aN (ops,⟨aN d,.call ⟨.builtin .len,#[x],#[t]⟩,ty,pos,af,g⟩::rest)) k ⟨N,vs,ds⟩ H R:=
 X.val U hn hw (λa w he _=>by
  have:=bU he hx;simp[aU,resolve,invoke,builtin,Builtin.len_,this,cI ht.out,goInt,Ay]) h
theorem bn2{v:ai}(hw:bO ops vs ⟨aN d,.binOp op t x y t',ty,pos,af,g⟩=aN aP)(hn:bM d N=aP)(hx:fI vs x=aN (bn l))(hy:fI vs y=aN (bn m))(hv:(match op with|.lss=>aN (Op.bytesLess l m)|.gtr=>aN (!(Op.bytesLess l m||l==m))|_=>aO)=aN v)(h:X P b O (aN (ops,rest)) k ⟨N,(d,.bool v)::vs,ds⟩ H R):X P b O (aN (ops,⟨aN d,.binOp op t x y t',ty,pos,af,g⟩::rest)) k ⟨N,vs,ds⟩ H R:=
 X.val U hn hw (λa w he _=>by
  have e1:=bU he hx;have e2:=bU he hy;cases op<;>simp only[gR,reduceCtorEq]at hv;all_goals
   subst hv
   simp only[aU,e1,e2,eqGuard,binOp,Op.stringOp,xp]
   simp) h
theorem X.mul{m n:ae}(hw:bO ops vs ⟨aN d,.binOp .mul t x y t',ty,pos,af,g⟩=aN aP)(hn:bM d N=aP)(hx:fI vs x=aN (.int .i64 m))(hy:fI vs y=aN (.int .i64 n))(h1: -9223372036854775808<=m*n)(h2:m*n<=9223372036854775807)(h:X P b O (aN (ops,rest)) k ⟨N,(d,.int .i64 (m*n))::vs,ds⟩ H R):X P b O (aN (ops,⟨aN d,.binOp .mul t x y t',ty,pos,af,g⟩::rest)) k ⟨N,vs,ds⟩ H R:=
 X.val U hn hw (λa w he _=>by
  have e1:=bU he hx;have e2:=bU he hy;have e3:=IntWalk.i64_in (m*n) ⟨h1,h2⟩;simp[aU,e1,e2,eqGuard,binOp,Op.intArith,e3]) h
theorem bn9{m n:ae}(hw:bO ops vs ⟨aN d,.call ⟨.builtin .min,#[x,y],ts⟩,ty,pos,af,g⟩=aN aP)(hn:bM d N=aP)(hx:fI vs x=aN (.int kk m))(hy:fI vs y=aN (.int kk n))(h:X P b O (aN (ops,rest)) k ⟨N,(d,.int kk (if n<m then n else m))::vs,ds⟩ H R):X P b O (aN (ops,⟨aN d,.call ⟨.builtin .min,#[x,y],ts⟩,ty,pos,af,g⟩::rest)) k ⟨N,vs,ds⟩ H R:=
 X.val U hn hw (λa w he _=>by
  have e1:=bU he hx;have e2:=bU he hy;simp[aU,resolve,invoke,builtin,Builtin.min_,Builtin.min2,e1,e2]) h
theorem bo6{m n:ae}(hw:bO ops vs ⟨aN d,.call ⟨.builtin .max,#[x,y],ts⟩,ty,pos,af,g⟩=aN aP)(hn:bM d N=aP)(hx:fI vs x=aN (.int kk m))(hy:fI vs y=aN (.int kk n))(h:X P b O (aN (ops,rest)) k ⟨N,(d,.int kk (if m<n then n else m))::vs,ds⟩ H R):X P b O (aN (ops,⟨aN d,.call ⟨.builtin .max,#[x,y],ts⟩,ty,pos,af,g⟩::rest)) k ⟨N,vs,ds⟩ H R:=
 X.val U hn hw (λa w he _=>by
  have e1:=bU he hx;have e2:=bU he hy;simp[aU,resolve,invoke,builtin,Builtin.max_,Builtin.max2,e1,e2]) h
theorem bl1{p:ah aX}[ht:Xv P t e](hw:bO ops vs ⟨aN d,.binOp op t x y t',ty,pos,af,g⟩=aN aP)(hn:bM d N=aP)(hx:fI vs x=aN (.pointer p))(hy:fI vs y=aN (.pointer aO))(hv:(match op with|.eql=>aN (lx p.isNone)|.neq=>aN (lx p.isSome)|_=>aO)=aN v)(h:X P b O (aN (ops,rest)) k ⟨N,(d,v)::vs,ds⟩ H R):X P b O (aN (ops,⟨aN d,.binOp op t x y t',ty,pos,af,g⟩::rest)) k ⟨N,vs,ds⟩ H R:=
 X.val U hn hw (λa w he _=>by
  have e1:=bU he hx;have e2:=bU he hy;cases op<;>simp only[gR,reduceCtorEq]at hv;all_goals
   subst hv
   obtain⟨n,hn⟩:=sW
   cases p<;>simp[aU,e1,e2,eqGuard,binOp,hn,gq,cI ht.out]) h
theorem jJ[hk:Kt.pC k]{G:dA}(hG:G.on O){xs:Y aY}{A:Y bG}(hT:TR P G f us.toArray A (dX v))[uD:CF P f](hw:bO ops vs ⟨aN d,.call ⟨.value (.func f),xs.toArray,sU⟩,ty,pos,af,g⟩=aN aP)(hn:bM d N=aP)(hx:oO vs xs=aN us)[hA:EK H A](h:X P b O (aN (ops,rest)) k ⟨N,(d,v)::vs,ds⟩ H R):
 X P b O (aN (ops,⟨aN d,.call ⟨.value (.func f),xs.toArray,sU⟩,ty,pos,af,g⟩::rest)) k ⟨N,vs,ds⟩ H R:=
 cM hG hT hw hn hx hA.out (by rintro _ _ ⟨rfl,rfl⟩;exact h)
theorem bm9{α:Type}(cC:α->Y aR)(xs:Y α)(F:Y bG)(he:cs=xs.flatMap cC)(hs:∀x,(cC x).length=sz):
 VS (bx bl t cs::F) (dp (cy cC) sz (aN ⟨bl,0,aO⟩) xs::F):=by
 intro O w h
 refine(Sat.freeze h).dE ?_
 rintro r o ⟨o1,o2,hd,h1,h3,hp,ir⟩
 refine⟨gI,o2,ef _,dQ _,h3,λr' pg=>?_,ir⟩
 have hg:=hp r' pg
 refine .inr ⟨bl,0,U,λi x hx=>⟨cC x,hs x,⟨cs.toArray,t,(0,0),hg,λj v hv=>?_⟩,U⟩⟩
 have:=sV (sz:=sz) (ls:=xs.map cC) (i:=i) (j:=j) (l:=cC x) (v:=v) bQ bQ hv
 grind
theorem jx{cc:ah (ar aW×Y aW)}{E:Env}(bl:ab)[hf:FB H bl t cs rs]{α:Type}(cC:α->Y aR)(xs:Y α)(he:cs=xs.flatMap cC)(hs:∀x,(cC x).length=sz)(h:X P b O cc k E (dp (cy cC) sz (aN ⟨bl,0,aO⟩) xs::rs) R):X P b O cc k E H R:=
 X.dE hf.out (yK (bm9 cC xs rs he hs) h)
end
section
variable{P:aT}{vs:Y (ab×aR)}{rest:Y aW}
def TD(P:aT)(G:dA)(f:FuncId)(args:ar aR)(A B:Y bG):Prop:=
 ∀(O:de) (w:aV),G.on O->Sat O A w->∀u,CallsD P f args u w λe u' w'=>u'=u/\(∃v,e=.returned v)/\Sat O B w'
theorem tm{a:Act}{w:aV}{R':aZ->aV->Prop}(mM:b.roundOf=aO)(hf:P.funcs[b.fn]?=aN fn)(hk:b.kind=.normal)(h:Leaves P fn a.tmps R' a.defers (.panicking ch) w):Unw P b (.panicking ch) a w R':=by
 intro todo cs _;obtain⟨e,w',fr,hr,hc,hfn,hl⟩:=leaves_steps a.defers (.panicking ch) w {b.atR a todo with mode:=.panicking ch} cs U U U hf hk h;exact⟨e,w',_,hr,hc,.mk mM hfn hl⟩
theorem UE{a:Act}{w:aV}(mM:b.roundOf=aO)(hf:P.funcs[b.fn]?=aN fn)(hk:b.kind=.normal)(hd:a.defers=[])(h:wc O R (.panicked ch) w):Unw P b (.panicking ch) a w (wc O R):=
 tm mM hf hk (by rw[hd];exact h)
theorem SR.bE6{k:Y Item}(mM:b.roundOf=aO)(hf:P.funcs[b.fn]?=aN fn)(hk:b.kind=.normal)(h:∀a w,ik E a->Sat O H w->Leaves P fn a.tmps (wc O R) E.ds .returning w):SR P b O (.code .ret::k) E H R:=by
 intro a w he hs cs _
 obtain⟨e,w',fr,hr,hc,hfn,hl⟩:=leaves_steps a.defers .returning w {b.atR a (.code .ret::k)with mode:=.returning} cs U U U hf hk (by rw[he.2.1];exact h a w he hs)
 exact⟨e,w',_,hr,.of_steps (.one (stepR_ret mM)) hc,.mk mM hfn hl⟩
theorem De(nA:nL b f0){k:Kt}[hk:Kt.pC k]{xs:Y aY}(hw:bO ops vs ⟨aO,.defer ⟨.value (.func f),xs.toArray,sU⟩,ty,pos,af,g⟩=aN aP)(hx:oO vs xs=aN us)(h:X P b O (aN (ops,rest)) k ⟨N,vs,⟨.fn (.func f) #[],us.toArray⟩::ds⟩ H R):
 X P b O (aN (ops,⟨aO,.defer ⟨.value (.func f),xs.toArray,sU⟩,ty,pos,af,g⟩::rest)) k ⟨N,vs,ds⟩ H R:=by
 intro hb a w he hs
 have h1:=mg he hx
 have h2:xs.toArray.map a.eval=us.toArray:=bQ
 have h3:a.eval (.func f)=.func (.func f) #[] #[]:=U
 have hr:(aU a.eval ⟨aO,.defer ⟨.value (.func f),xs.toArray,sU⟩,ty,pos,af,g⟩).run P w=.ok (.defer ⟨.fn (.func f) #[],us.toArray⟩) w:=by
  simp[aU,resolve,h2,h3,Deferred.ofValue]
 exact Yk nA.ro (lU (E:=⟨N,vs,ds⟩) he hw) hr (h hb {a with defers:=⟨.fn (.func f) #[],us.toArray⟩::a.defers} w ⟨he.1,by show _::a.defers=_;rw[he.2.1],he.2.2⟩ hs)
theorem Yp(nA:nL b f0){k:Kt}[hk:Kt.pC k]{xs:Y aY}{fst cap:Y aR}(hw:bO ops vs ⟨aO,.defer ⟨.value (.tmp t),xs.toArray,sU⟩,ty,pos,af,g⟩=aN aP)(ht:lk vs t=aN (.func (.func f) fst.toArray cap.toArray))(hx:oO vs xs=aN us)(h:X P b O (aN (ops,rest)) k ⟨N,vs,⟨.fn (.func f) cap.toArray,(fst++us).toArray⟩::ds⟩ H R):
 X P b O (aN (ops,⟨aO,.defer ⟨.value (.tmp t),xs.toArray,sU⟩,ty,pos,af,g⟩::rest)) k ⟨N,vs,ds⟩ H R:=by
 intro hb a w he hs
 have h1:=mg he hx
 have h2:xs.toArray.map a.eval=us.toArray:=bQ
 have h3:a.eval (.tmp t)=.func (.func f) fst.toArray cap.toArray:=bU (x:=.tmp t) he ht
 have hr:(aU a.eval ⟨aO,.defer ⟨.value (.tmp t),xs.toArray,sU⟩,ty,pos,af,g⟩).run P w=.ok (.defer ⟨.fn (.func f) cap.toArray,(fst++us).toArray⟩) w:=by
  simp[aU,resolve,h2,h3,Deferred.ofValue]
 exact Yk nA.ro (lU (E:=⟨N,vs,ds⟩) he hw) hr (h hb {a with defers:=⟨.fn (.func f) cap.toArray,(fst++us).toArray⟩::a.defers} w ⟨he.1,by show _::a.defers=_;rw[he.2.1],he.2.2⟩ hs)
theorem bm4{k:Y Item}{f1:ab}{rs:Y ResultVar}(nA:nL b f)[hf:FR P f rs][uD:CF P f1]{cap:Y aR}{A B:Y bG}{G:dA}(hG:G.on O)(hT:TD P G f1 (us++cap).toArray A B)(hE:bS H (A++F)){l:Y aR}(hl:kK P ⟨N,vs,[⟨.fn (.func f1) cap.toArray,us.toArray⟩]⟩ (B++F) rs l)(h:∃C,R (.returned (mv l)) C/\bS (B++F) C):
 X P b O aO (.it (.code .ret::k)) ⟨N,vs,[⟨.fn (.func f1) cap.toArray,us.toArray⟩]⟩ H R:=by
 intro hb
 obtain⟨fn,h1,rfl⟩:=hf.out
 obtain⟨C,h2,h3⟩:=h
 refine SR.bE6 nA.ro Yy hb λa w he hs=>?_
 obtain⟨β',hβ,Ao,sT⟩:=mo (hs.dE hE)
 have hc:=hT β' w (G.mono hβ hG) Ao .returning
 refine⟨by simp,.func f1,cap.toArray,f1,(us++cap).toArray,U,?_,?_⟩
 ·have:=uD.out (us++cap).toArray w
  grind [invoke]
 ·exact aU5
end
theorem B8{x y:Y au}:((⟨x.toArray⟩:aJ)==⟨y.toArray⟩)=decide (x=y):=by
 have h:((⟨x.toArray⟩:aJ)==⟨y.toArray⟩)=(x.toArray==y.toArray):=U
 grind
theorem Fo{K:Type}[aG K]{cC:K->aR}{kd:TypeDesc}(hs:∀x y,Instr.sameNow kd (cC x) (cC y)=aN (decide (x=y)))(x:K):
 ∀(es:Y MapEntry) (ks:Y K) (i:ab),es.map (·.key)=ks.map cC->Instr.findNow kd (cC x) es i=aN ((ks.findIdx? (·=x)).bind λj=>(es[j]?).map λe=>(i+j,e.val))
 |[],[],i,_=>by simp[Instr.findNow]
 |[],_::_,_,h=>by simp at h
 |_::_,[],_,h=>by simp at h
 |e::es,y::ks,i,h=>by
  simp only[bN,List.cons.injEq]at h
  obtain⟨h1,h2⟩:=h
  simp only[Instr.findNow,h1,hs]
  by_cases hxy:x=y
  ·grind
  ·have hyx:¬y=x:=λh=>hxy h.symm;rw[aM hxy];dsimp only;rw[Fo hs x es ks (i+1) h2,List.findIdx?_cons];exact YJ
theorem MG{kd:TypeDesc}(hk:P.underlying kt=aN kd)[aG K]{cC:K->aR}(hs:∀x y,Instr.sameNow kd (cC x) (cC y)=aN (decide (x=y)))(hc:∀(e:ai) (x:K) (w:aV),(iI e (9999+1) kt (cC x)).run P w=.ok () w)(hb:∀x,Instr.sameBits 10000 (cC x) (cC x)=aP):Keyed P kt cC:=by
 refine⟨λe x w=>hc e x w,λx es ks w h=>?_,λx w=>?_⟩
 ·simp only[Instr.findKey,cb,cI hk,bJ,Fo hs x es ks 0 h];simp
 ·simp[Instr.keyThatStays,hb]
theorem dy[ht:qm P kt]:Keyed P kt bn:=by
 refine MG ht.out (λx y=>by grind [Instr.sameNow,B8]) (λe x w=>?_) (λx=>?_)
 ·rw[iI];simp[cI ht.out]
 grind [Instr.sameBits,B8]
theorem UT[ht:vA P kt kk][aG K](f:K->ae)(hf:∀x y,f x=f y->x=y):Keyed P kt (λx:K=>.int kk (f x)):=by
 refine MG ht.out (λx y=>?_) (λe x w=>?_) (λx=>?_)
 ·simp only[Instr.sameNow,if_true]
  congr 1
  grind
 ·rw[iI];simp[cI ht.out]
 grind [Instr.sameBits]
section
variable{P:aT}{vs:Y (ab×aR)}{rest:Y aW}
theorem sP[hk:Kt.pC k](cC:K->aR)(hw:bO ops vs ⟨aN d,.makeMap t aO,ty,pos,af,g⟩=aN aP)(hn:bM d N=aP)(h:∀bl,X P b O (aN (ops,rest)) k ⟨N,(d,.map (aN bl))::vs,ds⟩ (mp cC bl []::H) R):X P b O (aN (ops,⟨aN d,.makeMap t aO,ty,pos,af,g⟩::rest)) k ⟨N,vs,ds⟩ H R:=
 mN (v:=λbl=>.map (aN bl)) (Hs':=λbl=>mp cC bl []::H) U hn hw (λa w he hs=>by
  refine⟨w.heap.size,_,?_,om (hs.alloc (.map #[] 0)) ⟨#[],0,U,by simp,by simp,by simp⟩⟩;simp[aU,Instr.makeMap,newObj,gz]) h
theorem Fp{O:de}{w:aV}[aG K]{cC:K->aR}{M:Y (K×aR)}[ht:zV P t kt et](hk:Keyed P kt cC)(h:Sat O H w)(hf:bS H (mp cC bl M::F))(x:K)(z:aR)(hz:gM M x=aO->(zeroValue et).run P w=.ok z w)(ok:ai):
 (Instr.lookup t (.map (aN bl)) (cC x) ok).run P w=.ok (if ok then .tuple #[(gM M x).getD z,.bool (gM M x).isSome]else(gM M x).getD z) w:=by
 obtain⟨o,⟨es,oH,rfl,h1,h2,h3⟩,hs⟩:=Sat.map (h.dE hf)
 have hb:=fF hs
 have BR:=wh (P:=P) (w:=w) h1 hk x
 rw[wi h1]at BR
 rw[Et]at hz ⊢
 cases hi:M.findIdx? (·.1=x)with
 |none=>
  rw[hi]at hz BR
  have hz:=hz U
  simp only[Option.bind_none]at BR
  simp only[Instr.lookup,cb,cI ht.out,bJ,getObj,gz,hb,hk.check,BR,hz,db]
  grind
 |some i=>
  have PB:i<M.length:=(cA.1 hi).1
  have Qg:M[i]?=aN M[i]:=bX PB
  rw[hi]at BR
  simp only[Option.bind_some,Qg,cO]at BR ⊢
  simp only[Instr.lookup,cb,cI ht.out,bJ,getObj,gz,hb,hk.check,BR,db]
  grind
theorem sQ[aG K]{cC:K->aR}{i:aY}{M:Y (K×aR)}(y:K)[ht:zV P t kt et][hf:FM H bl cC M F](hk:Keyed P kt cC)(hw:bO ops vs ⟨aN d,.lookup t x i aQ,ty,pos,af,g⟩=aN aP)(hn:bM d N=aP)(hx:fI vs x=aN (.map (aN bl)))(hi:fI vs i=aN (cC y))(hz:∀w,gM M y=aO->(zeroValue et).run P w=.ok zv w)(h:X P b O (aN (ops,rest)) k ⟨N,(d,(gM M y).getD zv)::vs,ds⟩ H R):
 X P b O (aN (ops,⟨aN d,.lookup t x i aQ,ty,pos,af,g⟩::rest)) k ⟨N,vs,ds⟩ H R:=
 X.val U hn hw (λa w he hs=>by
  have e1:=bU he hx;have e2:=bU he hi;simp only[aU,e1,e2,cb,Fp hk hs hf.out y zv (hz w) aQ,bJ,db];simp) h
theorem Yd[aG K]{cC:K->aR}{i:aY}{M:Y (K×aR)}(y:K)[ht:zV P t kt et][hf:FM H bl cC M F](hk:Keyed P kt cC)(hw:bO ops vs ⟨aN d,.lookup t x i aP,ty,pos,af,g⟩=aN aP)(hn:bM d N=aP)(hx:fI vs x=aN (.map (aN bl)))(hi:fI vs i=aN (cC y))(hz:∀w,gM M y=aO->(zeroValue et).run P w=.ok zv w)(h:X P b O (aN (ops,rest)) k ⟨N,(d,.tuple #[(gM M y).getD zv,.bool (gM M y).isSome])::vs,ds⟩ H R):
 X P b O (aN (ops,⟨aN d,.lookup t x i aP,ty,pos,af,g⟩::rest)) k ⟨N,vs,ds⟩ H R:=
 X.val U hn hw (λa w he hs=>by
  have e1:=bU he hx;have e2:=bU he hi;simp only[aU,e1,e2,cb,Fp hk hs hf.out y zv (hz w) aP,bJ,db];simp) h
theorem rM[hkk:Kt.pC k][aG K]{cC:K->aR}{m i:aY}{M:Y (K×aR)}(y:K)[ht:zV P t kt et][hf:FM H bl cC M F](hk:Keyed P kt cC)(hw:bO ops vs ⟨aO,.mapUpdate t m i x,ty,pos,af,g⟩=aN aP)(hm:fI vs m=aN (.map (aN bl)))(hi:fI vs i=aN (cC y))(hx:fI vs x=aN v)(h:X P b O (aN (ops,rest)) k ⟨N,vs,ds⟩ (mp cC bl (iT M y v)::F) R):
 X P b O (aN (ops,⟨aO,.mapUpdate t m i x,ty,pos,af,g⟩::rest)) k ⟨N,vs,ds⟩ H R:=
 Mp U hw (λa w he hs=>by
  have e1:=bU he hm
  have e2:=bU he hi
  have e3:=bU he hx
  obtain⟨w',h1,h2⟩:=Fk (P:=P) (t:=t) hk (hs.dE hf.out) y v
  grind [aU,cb,bJ,db]) h
theorem mQ[hkk:Kt.pC k][aG K]{cC:K->aR}{m i:aY}{M:Y (K×aR)}(y:K)[ht:zV P t kt et][hf:FM H bl cC M F](hk:Keyed P kt cC)(hw:bO ops vs ⟨aO,.insert t m i x,ty,pos,af,g⟩=aN aP)(hm:fI vs m=aN (.map (aN bl)))(hi:fI vs i=aN (cC y))(hx:fI vs x=aN v)(h:X P b O (aN (ops,rest)) k ⟨N,vs,ds⟩ (mp cC bl (iT M y v)::F) R):
 X P b O (aN (ops,⟨aO,.insert t m i x,ty,pos,af,g⟩::rest)) k ⟨N,vs,ds⟩ H R:=
 Mp U hw (λa w he hs=>by
  have e1:=bU he hm
  have e2:=bU he hi
  have e3:=bU he hx
  obtain⟨w',h1,h2⟩:=Fk (P:=P) (t:=t) hk (hs.dE hf.out) y v
  grind [aU,cb,bJ,db]) h
theorem P4{cC:K->aR}{M:Y (K×aR)}[ht:zV P t kt et][hf:FM H bl cC M F](hw:bO ops vs ⟨aN d,.call ⟨.builtin .len,#[x],#[t]⟩,ty,pos,af,g⟩=aN aP)(hn:bM d N=aP)(hx:fI vs x=aN (.map (aN bl)))(h:X P b O (aN (ops,rest)) k ⟨N,(d,.int .i64 M.length)::vs,ds⟩ H R):X P b O (aN (ops,⟨aN d,.call ⟨.builtin .len,#[x],#[t]⟩,ty,pos,af,g⟩::rest)) k ⟨N,vs,ds⟩ H R:=
 X.val U hn hw (λa w he hs=>by
  have e1:=bU he hx;obtain⟨o,⟨es,oH,rfl,h1,h2,h3⟩,hs⟩:=Sat.map (hs.dE hf.out);have hb:=fF hs;have hlen:es.size=M.length:=bE5;simp[aU,resolve,invoke,builtin,Builtin.len_,e1,cI ht.out,goInt,getObj,gz,hb,hlen]) h
end
end
section
variable{ι:Type}{args:ar aR}{f:FuncId}{A rest F:Y bG}{Q:aR->Y bG->Prop}{sU:ar TypeId}{a:ah aX}{p:Prop}{xs:Y au}{v:aR}{x0:Item}{us:Y aR}{sz:ab}(bl:ab)
def RSl{α:Type}(R:Rp α)(sz:ab):Rp (Y α):=⟨λr l x=>∃a c,l=[.slice a x.length c]/\x.length<=c/\xm R sz a x r,λhr ⟨a,c,h1,h2,h3⟩=>⟨a,c,h1,h2,h3.mono hr⟩⟩
section
variable{P:aT}{vs:Y (ab×aR)}{rest:Y aW}
theorem aS6{cc:ah (ar aW×Y aW)}{E:Env}{α:Type}{Re:Rp α}{o:ab}{x:α}[hf:Fj H bl Re sz o x](cs:ι->Y aR)(p:ι->Hp->Prop)(hm:∀i r r',Hp.le r r'->p i r->p i r')(hR:∀r l,Re.h r l x->∃i,l=cs i/\p i r)(h:∀i,X P b O cc k E (el (cy (λ_:aA=>cs i)) sz bl o ()::ro (p i)::H) R):X P b O cc k E H R:=by
 have key:∀w,Sat O H w->∃i,Sat O (el (cy (λ_:aA=>cs i)) sz bl o ()::ro (p i)::H) w:=by
  intro w hs;obtain⟨r,o',h0,hft,ir,qK⟩:=hs;obtain⟨rr,hr⟩:=hf.out;obtain⟨o1,o2,hd,h1,h2,hp,MH⟩:=hr r o' ir;obtain⟨l,h3,h4,h5⟩:=hp r (.refl _);obtain⟨i,h6,h7⟩:=hR r l h5;refine⟨i,r,o',h0,hft,⟨gI,o',ef _,dQ _,.refl _,λr' pg=>⟨l,h3,h4.mono pg,h6⟩,gI,o',ef _,dQ _,.refl _,λr' pg=>hm i _ _ pg h7,ir⟩,qK⟩
 intro hb
 cases cc with
 |none=>exact λa w he hs=>let⟨i,hi⟩:=key w hs;h i hb a w he hi
 |some c=>exact λa w he hs=>let⟨i,hi⟩:=key w hs;h i hb a w he hi
theorem bD7{cc:ah (ar aW×Y aW)}{E:Env}{α:Type}{Re:Rp α}{o Tk:ab}{x:Y α}[hf:Fj H bl (RSl Re Tk) sz o x](h:∀a c,x.length<=c->X P b O cc k E (el (cy (λ_:aA=>[.slice a x.length c])) sz bl o ()::dp Re Tk a x::H) R):X P b O cc k E H R:=
 aS6 bl (Re:=RSl Re Tk) (x:=x) (ι:={p:ah aX×ab // x.length<=p.2}) (λp=>[.slice p.1.1 x.length p.1.2]) (λp=>xm Re Tk p.1.1 x) (λp r r' hr h=>h.mono hr)
  (λr l ⟨a,c,h1,h2,h3⟩=>⟨⟨(a,c),h2⟩,h1,h3⟩) (λp=>h p.1.1 p.1.2 p.2)
end
class CX(P:aT)(f:ab)(e:ay (ar aR->Sem aR)):Prop where out:∀args w,(callFunc f args).run P w=((e args).run P w).andThen λv w'=>.ok (.value v) w'
theorem B9{sz:ab}{w:aV}(h:xm RB 1 a xs (hp w))(mf:xs≠[]):∃b o,a=aN ⟨b,o,aO⟩/\∀i,i<xs.length->w.cell? ⟨b,o+i,aO⟩=aN (.int .u8 ((xs.map λx=>(x.toNat:ae)).getD i 0)):=by
 rcases h with h|⟨b,o,h1,h2⟩
 ·grind
 ·refine⟨b,o,h1,λi hi=>?_⟩
  obtain⟨l,h3,h4,h5⟩:=h2 i xs[i] (bX hi)
  have h5':l=[gT xs[i]]:=h5
  subst h5'
  have:=h4.cell (j:=0) (v:=gT xs[i]) U
  grind [gT]
theorem Dk(xs:Y au):Lib.bytesOf (xs.map λx=>(x.toNat:ae))=xs:=by
 unfold Lib.bytesOf;rw[dK];conv=>rhs;rw[<-List.map_id xs]
 apply cY;simp_all
section
variable{P:aT}{vs:Y (ab×aR)}{rest:Y aW}
theorem Fa{f:ab}{e:ar aR->Sem aR}[hc:CX P f e]{xs:Y aY}(hw:bO ops vs ⟨aN d,.call ⟨.value (.func f),xs.toArray,sU⟩,ty,pos,af,g⟩=aN aP)(hn:bM d N=aP)(hx:oO vs xs=aN us)(hr:∀w,Sat O H w->(e us.toArray).run P w=.ok v w)(h:X P b O (aN (ops,rest)) k ⟨N,(d,v)::vs,ds⟩ H R):
 X P b O (aN (ops,⟨aN d,.call ⟨.value (.func f),xs.toArray,sU⟩,ty,pos,af,g⟩::rest)) k ⟨N,vs,ds⟩ H R:=
 X.val U hn hw (λa w he hs=>by
  have h1:=mg he hx;have h2:xs.toArray.map a.eval=us.toArray:=bQ;have h3:a.eval (.func f)=.func (.func f) #[] #[]:=U;have h4:=hc.out us.toArray w;rw[hr w hs]at h4;simp only[aU,resolve,h2,h3,Deferred.ofValue,invoke,cb,db,bJ];simp_all) h
theorem av9{cc:ah (ar aW×Y aW)}{k k2:Y Item}(n:ab)(_:k.drop n=k2)(st:ι->Y (ab×aR)×Y bG)(fin:∀i,X P b O aO (.it k2) ⟨N,(st i).1,ds⟩ (st i).2 R)(main:(∀i,X P b O aO (.it k2) ⟨N,(st i).1,ds⟩ (st i).2 R)->X P b O cc (.it k) ⟨N,vs,ds⟩ H R):X P b O cc (.it k) ⟨N,vs,ds⟩ H R:=main fin
theorem oN[hk:Kt.pC k]{G:dA}(hG:G.on O){f:ab}{t:ab}{xs:Y aY}{fst cap:Y aR}(hT:TR P G f (fst++us++cap).toArray A (dX v))[uD:CF P f](hw:bO ops vs ⟨aN d,.call ⟨.value (.tmp t),xs.toArray,sU⟩,ty,pos,af,g⟩=aN aP)(hn:bM d N=aP)(ht:lk vs t=aN (.func (.func f) fst.toArray cap.toArray))(hx:oO vs xs=aN us)[hA:EK H A](h:X P b O (aN (ops,rest)) k ⟨N,(d,v)::vs,ds⟩ H R):
 X P b O (aN (ops,⟨aN d,.call ⟨.value (.tmp t),xs.toArray,sU⟩,ty,pos,af,g⟩::rest)) k ⟨N,vs,ds⟩ H R:=
 jd hG hT hw hn ht hx hA.out (by rintro _ _ ⟨rfl,rfl⟩;exact h)
end
theorem ay6{P:aT}{O:de}{H:Y bG}{w:aV}{n c:ab}(cv:au)(hs:Sat O H w)[hf:BQ H a RB 1 xs](hn:xs.length=n):
 (Extern.BytealgIndexByte.indexByte #[.slice a n c,.int .u8 cv.toNat]).run P w=.ok (.int .i64 (dT xs cv)) w:=by
 obtain⟨rr,hr⟩:=hf.out
 have h1:xm RB 1 a xs (hp w):=Sat.ro (hs.dE hr)
 by_cases mf:xs=[]
 ·subst mf;simp at hn;subst hn;cases a with
  |none=>exact Lib.run_indexByteNil (P:=P) w 0 c cv.toNat
  |some a=>
   refine Eq.trans ?_ (Lib.run_indexByteNil (P:=P) w 0 c cv.toNat);rfl
 ·obtain⟨b,o,rfl,h2⟩:=B9 (sz:=1) h1 mf;have:=Lib.run_indexByteSlice (P:=P) w b o n c (xs.map λx=>(x.toNat:ae)) UU (by intro i hi;exact h2 i bw) cv.toNat;rw[this,Dk];simp
def pu(p:Prop):bG:=⟨λ_ _=>p,λ_ _ h=>h⟩
def ex{ι:Type}(f:ι->Y bG):bG:=⟨λr o=>∃i,pq (f i) r o,λhr ho ⟨i,h⟩=>⟨i,kx _ hr ho h⟩⟩
def orA(p q:bG):bG:=⟨λr o=>p.h r o\/q.h r o,λhr ho h=>h.elim (λh=>.inl (p.mono hr ho h)) (λh=>.inr (q.mono hr ho h))⟩
theorem iY{f:ι->Y bG}(i:ι)(F:Y bG):bS (f i++F) (ex f::F):=by
 intro r o h;obtain⟨o1,o2,hd,h1,h2,ha,hb⟩:=kQ.1 h;exact⟨o1,o2,hd,h1,h2,⟨i,ha⟩,hb⟩
theorem fE(hp:p)(F:Y bG):bS F (pu p::F):=
 λ_ o h=>⟨gI,o,ef _,dQ _,.refl _,hp,h⟩
theorem bR3(p q:bG)(F:Y bG):bS (p::F) (orA p q::F):=λ_ _ ⟨o1,o2,hd,h1,h2,hp,hs⟩=>⟨o1,o2,hd,h1,h2,.inl hp,hs⟩
theorem ew:∀{a b:Y bG},a.Perm b->bS a b:=by
 intro a b h;induction h with
 |nil=>exact bS.refl _
 |cons p _ ih=>exact bS.cons p ih
 |swap p q a=>exact eo q p a
 |trans _ _ ih1 rb=>exact ih1.trans rb
theorem je{B:Y bG}(h:bS A B)(F:Y bG):bS (A++F) (B++F):=by
 intro r o hs;obtain⟨o1,o2,hd,h1,h2,ha,hb⟩:=kQ.1 hs;exact kQ.2 ⟨o1,o2,hd,h1,h2,h _ _ ha,hb⟩
theorem v8(A B:Y bG):bS (A++B) (B++A):=ew cH
theorem jB{O:de}{f:ι->Y bG}{w:aV}(h:Sat O (ex f::F) w):∃i,Sat O (f i++F) w:=by
 obtain⟨r,o,h0,hf,⟨o1,o2,hd,h1,h2,⟨i,hi⟩,hs⟩,qK⟩:=h;exact⟨i,r,o,h0,hf,kQ.2 ⟨o1,o2,hd,h1,h2,hi,hs⟩,qK⟩
theorem lR{O:de}{w:aV}(h:Sat O (pu p::F) w):p/\Sat O F w:=by
 have h':=h.dE (bS.drop _ _);obtain⟨r,o,h0,hf,⟨o1,o2,hd,h1,h2,hp,hs⟩,qK⟩:=h;exact⟨hp,h'⟩
class FK(H:Y bG){κ α:Type}(pred:κ->α->bG)(key:κ)(x:ay α)(rest:ay (Y bG)):Prop where out:bS H (pred key x::rest)
instance FK.here{κ α:Type}(pred:κ->α->bG)(key:κ)(x:α)(H:Y bG):FK (pred key x::H) pred key x H:=⟨bS.refl _⟩
instance(priority:=low) FK.there(p:bG)(H:Y bG){κ α:Type}(pred:κ->α->bG)(key:κ)(x:α)(rest:Y bG)[h:FK H pred key x rest]:FK (p::H) pred key x (p::rest):=
 ⟨(bS.cons p h.out).trans (eo _ _ _)⟩
class FEx(H:Y bG){ι:ay Type}(f:ay (ι->Y bG))(rest:ay (Y bG)):Prop where out:bS H (ex f::rest)
class FPu(H:Y bG)(p:ay Prop)(rest:ay (Y bG)):Prop where out:bS H (pu p::rest)
instance FPu.here(p:Prop)(H:Y bG):FPu (pu p::H) p H:=⟨bS.refl _⟩
instance(priority:=low) FPu.there(q:bG)(H:Y bG)(p:Prop)(rest:Y bG)[h:FPu H p rest]:FPu (q::H) p (q::rest):=
 ⟨(bS.cons q h.out).trans (eo _ _ _)⟩
class Qk(p:bG):Prop where out:∀r o,p.h r o->p.h gI o
instance(b ty:ab)(cs:Y aR):Qk (bx b ty cs):=⟨λ_ _ h=>h⟩
instance(e sz:ab)(a:ah aX)(n c:ab)(xs:Y aR):Qk (own e sz a n c xs):=⟨λ_ _ h=>h⟩
instance {K:Type}(cC:K->aR)(b:ab)(M:Y (K×aR)):Qk (mp cC b M):=⟨λ_ _ h=>h⟩
instance(p:Prop):Qk (pu p):=⟨λ_ _ h=>h⟩
class tS(B:Y bG):Prop where out:∀p∈B,Qk p
instance:tS []:=⟨λ_ h=>by cases h⟩
instance(p:bG)(B:Y bG)[h:Qk p][h2:tS B]:tS (p::B):=⟨λq hq=>by
 rcases cW.1 hq with rfl|hq
 ·exact h
 ·exact h2.out q hq⟩
theorem tS.append{B:Y bG}(h:tS A)(k:tS B):tS (A++B):=⟨λp hp=>(du.1 hp).elim (h.out p) (k.out p)⟩
theorem tS.pq:∀{B:Y bG} (_:tS B) {r o:Hp},pq B r o->pq B gI o
 |[],_,_,_,_=>trivial
 |p::B,h,r,o,⟨o1,o2,hd,h1,h2,hp,hs⟩=>⟨o1,o2,hd,h1,h2,(h.out p dW).out _ _ hp,tS.pq ⟨λq hq=>h.out q (by simp[hq])⟩ hs⟩
theorem bl9{f:ι->Y bG}(h:∀i,tS (f i)):Qk (ex f):=⟨λ_ _ ⟨i,hi⟩=>⟨i,(h i).pq hi⟩⟩
def Hp.del(r:Hp)(b:ab):Hp:=λn=>if n=b then aO else r n
section
variable{P:aT}
theorem TR.eY{A':Y bG}{R R':aZ->Y bG->Prop}(h:TR P G f args A R)(hA:bS A' A)(hR:∀e B,R e B->∃B',R' e B'/\bS B B'):TR P G f args A' R':=
 λO w hG hs=>(h O w hG (hs.dE hA)).mono λe w' ⟨B,hB,Fi⟩=>let⟨B',h1,h2⟩:=hR e B hB;⟨B',h1,Fi.dE h2⟩
theorem TR.vs{A':Y bG}{R:aZ->Y bG->Prop}(h:TR P G f args A R)(hA:VS A' A):TR P G f args A' R:=
 λO w hG hs=>h O w hG (hA O w hs)
theorem Ko{g:ι->Y bG}{R:aZ->Y bG->Prop}(h:∀i,TR P G f args (g i++F) R):TR P G f args (ex g::F) R:=
 λO w hG hs=>let⟨i,hi⟩:=jB hs;h i O w hG hi
theorem TR.pure(h:∀w,Calls P f args w λe w'=>e=.returned v/\w'=w)(A:Y bG:=[]):TR P G f args A (dX v):=
 λO w _ hs=>(h w).mono λe w' ⟨h1,h2⟩=>by subst h1;subst h2;exact⟨[],⟨U,U⟩,hs.dE (bS.nil _)⟩
theorem S1{b:ab}{x:Obj}(h:TR P G f args (ro (λr=>r b=aN x)::A) (dC Q))(hQ:∀v B,Q v B->tS B):
 TR P G f args (pt b x::A) (dC λv B=>∃B',Q v B'/\B=pt b x::B'):=by
 intro O w hG hs
 obtain⟨r,o,h0,hf,⟨o1,o2,hd,h1,h2,l6,ir⟩,qK⟩:=hs
 have P':o1 b=aN x:=l6
 have hob:o b=aN x:=h1 _ _ P'
 have hr:r b=aO:=bD8
 have S7:O.f b=aO:=bD9
 have h2b:o2 b=aO:=bE0
 have kN:∀{q:Hp},q b=aO->mP (Hp.one b x) q:=by
  intro q hq n
  grind [Hp.one]
 have hole:Hp.le (Hp.one b x) (hp w):=aS8
 have UM:Hp.le r (mb (Hp.one b x) r):=gu (kN hr)
 refine(h ⟨w,mb (Hp.one b x) r,O.f,O.q⟩ w (G.mono (β':=⟨w,mb (Hp.one b x) r,O.f,O.q⟩) ⟨h0.trans UM,U⟩ hG) ⟨_,o2,.refl _,⟨ma hole hf.r,h2.trans hf.o,hf.f,?_,?_,hf.of.mono h2 (.refl _)⟩,?_,yZ.refl _⟩).mono ?_
 ·exact aS9
 ·exact iQ (kN S7) hf.rf
 ·refine⟨gI,o2,ef _,dQ _,.refl _,?_,kx A UM (.refl _) ir⟩;exact aT0
 ·rintro e w' ⟨B,hB,r2,o3,hr2,MI,MH,hsm2⟩;cases e with
  |returned v=>
   have hr2b:r2 b=aN x:=hr2 _ _ (ig _ _ _ _ (by simp[Hp.one]));have ho3b:o3 b=aO:=by rcases MI.ro b with h|h;all_goals grind
   have UW:Hp.le (r2.del b) r2:=by intro n z hn;grind [Hp.del]
   refine⟨pt b x::B,⟨B,hB,U⟩,r2.del b,mb (Hp.one b x) o3,?_,⟨UW.trans MI.r,ma ?_ MI.o,MI.f,?_,MI.rf.mono UW (.refl _),iQ (kN S7) MI.of⟩,?_,qK.trans hsm2⟩
   ·intro n z hn;have hn':=hr2 _ _ (UM _ _ (h0 _ _ hn));unfold Hp.del;split
    ·rename_i e;subst e;rw[h0 _ _ hn]at hr;cases hr
    ·exact hn'
   ·intro n z hn;unfold Hp.one at hn;split at hn
    ·rename_i e;cases hn;rw[e];exact MI.r _ _ hr2b
    ·cases hn
   ·exact(iQ (kN (by simp[Hp.del])) (MI.ro.mono UW (.refl _)).symm).symm
   ·exact⟨Hp.one b x,o3,kN ho3b,ig _ _,gu (kN ho3b),by show Hp.one _ _ _=_;simp[Hp.one],kx B (dQ _) (.refl _) ((hQ v B hB).pq MH)⟩
  |panicked ch=>exact hB.elim
  |outgrown=>exact hB.elim
theorem nG{α:Type}{cC:α->Y aR}{e n c:ab}{xs:Y α}(h:TR P G f args (dp (cy cC) sz a xs::A) (dC Q))(hQ:∀v B,Q v B->tS B)(hn:n=xs.length)(lV:∀x,(cC x).length=sz):
 TR P G f args (own e sz a n c (xs.flatMap cC)::A) (dC λv B=>∃B',Q v B'/\B=own e sz a n c (xs.flatMap cC)::B'):=by
 intro O w hG hs
 rcases eR hs with⟨rfl,rfl,rfl,Qf,h2⟩|⟨g,cur,rfl,h3,h6,h7,h8,h9,h2⟩
 ·have hx:xs=[]:=bQ;subst hx;refine(h O w hG (h2.dE ?_)).mono ?_
  ·exact λr o h=>⟨gI,o,ef _,dQ _,.refl _,λr' _=>.inl U,h⟩
  ·rintro e' w' ⟨B,hB,Fi⟩;cases e' with
   |returned v=>exact⟨_,⟨B,hB,U⟩,j6 _ _ Fi⟩
   |panicked ch=>exact hB.elim
   |outgrown=>exact hB.elim
 ·have key:TR P G f args (ro (λr=>r g=aN (.cells cur e (0,0)))::A) (dC Q):=by
   refine h.eY ?_ (λe B hB=>⟨B,hB,bS.refl _⟩)
   rintro r o ⟨o1,o2,hd,h1,Qc,hp,ir⟩
   refine⟨gI,o2,ef _,dQ _,Qc,λr' pg=>?_,ir⟩
   have hg:=hp r' pg
   refine .inr ⟨g,0,U,λi x hx=>⟨cC x,lV x,⟨cur,e,(0,0),hg,λj v hv=>?_⟩,U⟩⟩
   have h12:=sV (sz:=sz) (ls:=xs.map cC) (i:=i) (j:=j) (l:=cC x) (v:=v) bQ bQ hv
   grind
  refine(S1 key hQ O w hG h2).mono ?_;rintro e' w' ⟨B,hB,Fi⟩;cases e' with
  |returned v=>
   obtain⟨B',hB',rfl⟩:=hB;exact⟨_,⟨B',hB',U⟩,gY Fi h3 h6 h7 h8 h9⟩
  |panicked ch=>exact hB.elim
  |outgrown=>exact hB.elim
end
section
variable{P:aT}
theorem j9(h:∀w,Sat O H w->∃Hs',Sat O Hs' w/\X P b O cc k E Hs' R):X P b O cc k E H R:=by
 intro hb;cases cc with
 |none=>exact λa w he hs=>let⟨_,h1,h2⟩:=h w hs;h2 hb a w he h1
 |some c=>exact λa w he hs=>let⟨_,h1,h2⟩:=h w hs;h2 hb a w he h1
theorem mF[hf:FPu H p rest](h:p->X P b O cc k E rest R):X P b O cc k E H R:=
 j9 λ_ hs=>let⟨h1,h2⟩:=lR (hs.dE hf.out);⟨_,h2,h h1⟩
theorem X.l8{κ α:Type}(pred:κ->α->bG)(key:κ){x:α}[hf:FK H pred key x rest]{f:ι->Y bG}(hd:pred key x=ex f)(h:∀i,X P b O cc k E (f i++rest) R):X P b O cc k E H R:=
 j9 λ_ hs=>let⟨i,hi⟩:=jB (hd▸hs.dE hf.out);⟨_,hi,h i⟩
theorem gr{κ α:Type}(pred:κ->α->bG)(key:κ)(x:α){f:ι->Y bG}(hd:pred key x=ex f)(i:ι)[he:ES H (f i) rest](h:X P b O cc k E (pred key x::rest) R):X P b O cc k E H R:=
 X.dE (he.out.trans (hd▸iY i rest)) h
end
section
variable{P:aT}{vs:Y (ab×aR)}
theorem SU{k:Y Item}(st:ι->Y (ab×aR)×Y bG)(fin:∀i,X P b O aO (.it k) ⟨N,(st i).1,ds⟩ (st i).2 R)(main:∀K,(∀i,X P b O aO (.it K) ⟨N,(st i).1,ds⟩ (st i).2 R)->X P b O cc (.it (K)) ⟨N,vs,ds⟩ H R):X P b O cc (.it (k)) ⟨N,vs,ds⟩ H R:=main k fin
theorem iK{k:Y Item}(st:ι->Y (ab×aR)×Y bG)(fin:∀i,X P b O aO (.it k) ⟨N,(st i).1,ds⟩ (st i).2 R)(main:∀K,(∀i,X P b O aO (.it K) ⟨N,(st i).1,ds⟩ (st i).2 R)->X P b O cc (.it (x0::K)) ⟨N,vs,ds⟩ H R):X P b O cc (.it (x0::k)) ⟨N,vs,ds⟩ H R:=main k fin
theorem nk{x1:Item}{k:Y Item}(st:ι->Y (ab×aR)×Y bG)(fin:∀i,X P b O aO (.it k) ⟨N,(st i).1,ds⟩ (st i).2 R)(main:∀K,(∀i,X P b O aO (.it K) ⟨N,(st i).1,ds⟩ (st i).2 R)->X P b O cc (.it (x0::x1::K)) ⟨N,vs,ds⟩ H R):X P b O cc (.it (x0::x1::k)) ⟨N,vs,ds⟩ H R:=main k fin
end
end
end Go.Sl
set_option linter.unusedVariables false
namespace Go.Sl
theorem Sub.of{l m:Y (ab×aR)}(h:l.map (λx=>lk m x.1)=l.map λx=>aN x.2):Sub l m:=by
 induction l with
 |nil=>exact Sub.nil _
 |cons x r ih=>
  rw[bN,bN,List.cons.injEq]at h;exact Sub.cons h.1 (ih h.2)
inductive Lk:Y (ab×aR)->ab->aR->Prop
 |hit {j v r}:Lk ((j,v)::r) j v
 |Ql {x r j v}:Lk r j v->Lk (x::r) j v
inductive Pk(vs:Y (ab×aR)):Y ab->Y (ab×aR)->Prop
 |nil:Pk vs [] []
 |cons {j v l r}:Lk vs j v->Pk vs l r->Pk vs (j::l) ((j,v)::r)
inductive Rm:Y bG->ab->bG->Y bG->Prop
 |zero {a l}:Rm (a::l) 0 a l
 |succ {a b l n r}:Rm l n a r->Rm (b::l) (n+1) a (b::r)
inductive Ph:Y bG->Y ab->Y bG->Y bG->Prop
 |nil {l}:Ph l [] [] l
 |cons {l n a r ns h k}:Rm l n a r->Ph r ns h k->Ph l (n::ns) (a::h) k
theorem Rm.dE{l n a r}(h:Rm l n a r):bS l (a::r):=by
 induction h with
 |zero=>exact bS.refl _
 |succ _ ih=>exact(bS.cons _ ih).trans (eo _ _ _)
theorem Ph.dE{l ns h k}(p:Ph l ns h k):bS l (h++k):=by
 induction p with
 |nil=>exact bS.refl _
 |cons h _ ih=>exact h.dE.trans (bS.cons _ ih)
inductive Nx:Y bG->ab->bG->Prop
 |zero {a l}:Nx (a::l) 0 a
 |succ {a b l n}:Nx l n a->Nx (b::l) (n+1) a
inductive Px:Y bG->Y ab->Y bG->Prop
 |nil {l}:Px l [] []
 |cons {l n a ns r}:Nx l n a->Px l ns r->Px l (n::ns) (a::r)
def ltN(n i:ab):ai:=bM i n
section
variable {P:aT}{b:bc}{O:de}{N:ab}{vs:Y (ab×aR)}{ds:Y Deferred}{H:Y bG}{R:aZ->Y bG->Prop}{cc:ah (ar aW×Y aW)}
theorem fR(kp ci:Y ab){k:Y Item}{ι:Type}(dv:ι->Y (ab×aR)->Y (ab×aR))(dh:ι->Y bG->Y bG)(μ:ι->ab)(i₀:ι){c:Code}{kv:Y (ab×aR)}{h0 kh:Y bG}
 (body:∀i,(∀i',μ i'<μ i->X P b O aO (.it (.inLoop c::k)) ⟨N,dv i' kv,ds⟩ (dh i' kh) R)->X P b O aO (.it (.code c::.inLoop c::k)) ⟨N,dv i kv,ds⟩ (dh i kh) R)
 (hk:Pk vs kp kv:=by repeat(first|exact Pk.nil|exact Lk.hit|apply Lk.Ql|apply Pk.cons))
 (hh:Ph H ci h0 kh:=by repeat(first|exact Ph.nil|exact Rm.zero|apply Rm.succ|apply Ph.cons))
 (hs:Sub (dv i₀ kv) vs:=by first|exact Sub.of rfl|(repeat(first|exact Sub.nil _|refine Sub.cons rfl ?_|refine Sub.cons (dI rfl nM) ?_|refine Sub.cons (dI rfl bw) ?_|refine Sub.cons (dI rfl (by simp[bR];omega)) ?_)))
 (he:bS (h0++kh) (dh i₀ kh):=by first|exact bS.refl _|exact bS.drop _ _|exact(bS.drop _ _).trans (bS.drop _ _)|exact(bS.drop _ _).trans ((bS.drop _ _).trans (bS.drop _ _))|exact bA):
 X P b O aO (.it (.code (.loop c)::k)) ⟨N,vs,ds⟩ H R:=
 X.loop (λi=>(dv i kv,dh i kh)) μ i₀ hs (hh.dE.trans he) body
theorem bZ4(kp ci:Y ab){k:Y Item}{ι:Type}(dv:ι->Y (ab×aR)->Y (ab×aR))(dh:ι->Y bG->Y bG){kv:Y (ab×aR)}{h0 kh:Y bG}
 (fin:∀i,X P b O aO (.it k) ⟨N,dv i kv,ds⟩ (dh i kh) R)(main:∀K,(∀i,X P b O aO (.it K) ⟨N,dv i kv,ds⟩ (dh i kh) R)->X P b O cc (.it (K)) ⟨N,vs,ds⟩ H R)
 (hk:Pk vs kp kv:=by repeat(first|exact Pk.nil|exact Lk.hit|apply Lk.Ql|apply Pk.cons))
 (hh:Ph H ci h0 kh:=by repeat(first|exact Ph.nil|exact Rm.zero|apply Rm.succ|apply Ph.cons)):
 X P b O cc (.it (k)) ⟨N,vs,ds⟩ H R:=main k fin
theorem tq(kp ci:Y ab){x0:Item}{k:Y Item}{ι:Type}(dv:ι->Y (ab×aR)->Y (ab×aR))(dh:ι->Y bG->Y bG){kv:Y (ab×aR)}{h0 kh:Y bG}
 (fin:∀i,X P b O aO (.it k) ⟨N,dv i kv,ds⟩ (dh i kh) R)(main:∀K,(∀i,X P b O aO (.it K) ⟨N,dv i kv,ds⟩ (dh i kh) R)->X P b O cc (.it (x0::K)) ⟨N,vs,ds⟩ H R)
 (hk:Pk vs kp kv:=by repeat(first|exact Pk.nil|exact Lk.hit|apply Lk.Ql|apply Pk.cons))
 (hh:Ph H ci h0 kh:=by repeat(first|exact Ph.nil|exact Rm.zero|apply Rm.succ|apply Ph.cons)):
 X P b O cc (.it (x0::k)) ⟨N,vs,ds⟩ H R:=main k fin
theorem XQ(kp ci:Y ab){x0 x1:Item}{k:Y Item}{ι:Type}(dv:ι->Y (ab×aR)->Y (ab×aR))(dh:ι->Y bG->Y bG){kv:Y (ab×aR)}{h0 kh:Y bG}
 (fin:∀i,X P b O aO (.it k) ⟨N,dv i kv,ds⟩ (dh i kh) R)(main:∀K,(∀i,X P b O aO (.it K) ⟨N,dv i kv,ds⟩ (dh i kh) R)->X P b O cc (.it (x0::x1::K)) ⟨N,vs,ds⟩ H R)
 (hk:Pk vs kp kv:=by repeat(first|exact Pk.nil|exact Lk.hit|apply Lk.Ql|apply Pk.cons))
 (hh:Ph H ci h0 kh:=by repeat(first|exact Ph.nil|exact Rm.zero|apply Rm.succ|apply Ph.cons)):
 X P b O cc (.it (x0::x1::k)) ⟨N,vs,ds⟩ H R:=main k fin
theorem bZ3(kp ci:Y ab){x0 x1 x2:Item}{k:Y Item}{ι:Type}(dv:ι->Y (ab×aR)->Y (ab×aR))(dh:ι->Y bG->Y bG){kv:Y (ab×aR)}{h0 kh:Y bG}
 (fin:∀i,X P b O aO (.it k) ⟨N,dv i kv,ds⟩ (dh i kh) R)(main:∀K,(∀i,X P b O aO (.it K) ⟨N,dv i kv,ds⟩ (dh i kh) R)->X P b O cc (.it (x0::x1::x2::K)) ⟨N,vs,ds⟩ H R)
 (hk:Pk vs kp kv:=by repeat(first|exact Pk.nil|exact Lk.hit|apply Lk.Ql|apply Pk.cons))
 (hh:Ph H ci h0 kh:=by repeat(first|exact Ph.nil|exact Rm.zero|apply Rm.succ|apply Ph.cons)):
 X P b O cc (.it (x0::x1::x2::k)) ⟨N,vs,ds⟩ H R:=main k fin
theorem bZ6(kp ci:Y ab){x0 x1 x2 x3:Item}{k:Y Item}{ι:Type}(dv:ι->Y (ab×aR)->Y (ab×aR))(dh:ι->Y bG->Y bG){kv:Y (ab×aR)}{h0 kh:Y bG}
 (fin:∀i,X P b O aO (.it k) ⟨N,dv i kv,ds⟩ (dh i kh) R)(main:∀K,(∀i,X P b O aO (.it K) ⟨N,dv i kv,ds⟩ (dh i kh) R)->X P b O cc (.it (x0::x1::x2::x3::K)) ⟨N,vs,ds⟩ H R)
 (hk:Pk vs kp kv:=by repeat(first|exact Pk.nil|exact Lk.hit|apply Lk.Ql|apply Pk.cons))
 (hh:Ph H ci h0 kh:=by repeat(first|exact Ph.nil|exact Rm.zero|apply Rm.succ|apply Ph.cons)):
 X P b O cc (.it (x0::x1::x2::x3::k)) ⟨N,vs,ds⟩ H R:=main k fin
theorem bZ5(kp ci:Y ab){x0 x1 x2 x3 x4:Item}{k:Y Item}{ι:Type}(dv:ι->Y (ab×aR)->Y (ab×aR))(dh:ι->Y bG->Y bG){kv:Y (ab×aR)}{h0 kh:Y bG}
 (fin:∀i,X P b O aO (.it k) ⟨N,dv i kv,ds⟩ (dh i kh) R)(main:∀K,(∀i,X P b O aO (.it K) ⟨N,dv i kv,ds⟩ (dh i kh) R)->X P b O cc (.it (x0::x1::x2::x3::x4::K)) ⟨N,vs,ds⟩ H R)
 (hk:Pk vs kp kv:=by repeat(first|exact Pk.nil|exact Lk.hit|apply Lk.Ql|apply Pk.cons))
 (hh:Ph H ci h0 kh:=by repeat(first|exact Ph.nil|exact Rm.zero|apply Rm.succ|apply Ph.cons)):
 X P b O cc (.it (x0::x1::x2::x3::x4::k)) ⟨N,vs,ds⟩ H R:=main k fin
theorem fU[hm:Tj P]{E:Env}{id:ab}{k:Y Item}{ops:ar aW}(n:ab)(ix:Y ab){Fx:Y bG}(h:X P b O aO (.dr ops (ltN n) Fx [] k) E H R)
 (hx:Px H ix Fx:=by repeat(first|exact Px.nil|exact Nx.zero|apply Nx.succ|apply Px.cons))
 (j7:Dh ops.toList=aP:=by exact U):X P b O aO (.it (.code (.region id ops aP)::k)) E H R:=fG _ Fx j7 h
theorem ph[hm:Tj P]{E:Env}{id:ab}{k:Y Item}{ops:ar aW}(l:Y ab)(ix:Y ab){Fx:Y bG}(h:X P b O aO (.dr ops (sG l) Fx [] k) E H R)
 (hx:Px H ix Fx:=by repeat(first|exact Px.nil|exact Nx.zero|apply Nx.succ|apply Px.cons))
 (j7:Dh ops.toList=aP:=by exact U):X P b O aO (.it (.code (.region id ops aP)::k)) E H R:=fG _ Fx j7 h
end
end Go.Sl
namespace Go.Sl
variable{O:de}{H:Y bG}{b:bc}{R:aZ->Y bG->Prop}{k:Kt}{N d ty:ab}{ds:Y Deferred}{ops:ar aW}{pos:aC}{af:ar Edge}{g:ah (ab×ai)}{E:Env}{cc:ah (ar aW×Y aW)}{w:aV}{G:dA}{α:Type}
section
variable{l:Y au}{a:ah aX}{e src dst t c:ab}{T:ab->ai}{done:Y ab}{rs Fx rest:Y bG}{v:aR}{kk:Y Item}{op:BinOp}{xs cs:Y aR}{ι:Type}(n:ab)(x y:au)
theorem bv8:BitVec.ofInt 8 (x.toNat:ae)=x.toBitVec:=by
 simp_all
theorem bE7(x:az):BitVec.ofInt 64 (x.toNat:ae)=x.toBitVec:=by
 simp_all
theorem aU7:dS.wrap ((BitVec.ofInt dS.bits (x.toNat:ae)|||BitVec.ofInt dS.bits (y.toNat:ae)).toNat:ae)=((x|||y).toNat:ae):=by
 show dS.wrap ((BitVec.ofInt 8 (x.toNat:ae)|||BitVec.ofInt 8 (y.toNat:ae)).toNat:ae)=_;exact YK
theorem bp2:dS.wrap ((BitVec.ofInt dS.bits (x.toNat:ae)&&&BitVec.ofInt dS.bits (y.toNat:ae)).toNat:ae)=((x&&&y).toNat:ae):=by
 show dS.wrap ((BitVec.ofInt 8 (x.toNat:ae)&&&BitVec.ofInt 8 (y.toNat:ae)).toNat:ae)=_;exact YK
theorem YL:dS.wrap ((BitVec.ofInt dS.bits (x.toNat:ae)^^^BitVec.ofInt dS.bits (y.toNat:ae)).toNat:ae)=((x^^^y).toNat:ae):=by
 show dS.wrap ((BitVec.ofInt 8 (x.toNat:ae)^^^BitVec.ofInt 8 (y.toNat:ae)).toNat:ae)=_;exact YK
theorem YM(x y:az):ee.wrap ((BitVec.ofInt ee.bits (x.toNat:ae)|||BitVec.ofInt ee.bits (y.toNat:ae)).toNat:ae)=((x|||y).toNat:ae):=by
 show ee.wrap ((BitVec.ofInt 64 (x.toNat:ae)|||BitVec.ofInt 64 (y.toNat:ae)).toNat:ae)=_;rw[bE7,bE7,wrap_u64 _ (BitVec.isLt _)];rfl
theorem xq(k:IntKind)(m n:ab)(h:n<=k.bits):((m:ae).fdiv (2^(min ((n:ae)).toNat k.bits)))=((m / 2^n:ab):ae):=by
 grind
theorem UX:dS.wrap ((BitVec.ofInt dS.bits (x.toNat:ae)|||BitVec.ofInt dS.bits 128).toNat:ae)=((x|||128).toNat:ae):=aU7 x 128
theorem Fs:dS.wrap ((BitVec.ofInt dS.bits (x.toNat:ae)&&&BitVec.ofInt dS.bits 127).toNat:ae)=((x&&&127).toNat:ae):=bp2 x 127
theorem bE8(m:ab):((m:ae).fdiv (2^(min (Int.toNat 7) ee.bits)))=((m / 128:ab):ae):=xq .u64 m 7 eK
theorem kg{a b:Y bG}(h:a=b):bS a b:=h▸bS.refl a
theorem dI{vs:Y (ab×aR)}{v':aR}(h:lk vs t=aN v')(e:v'=v):lk vs t=aN v:=e▸h
theorem Dl:dS.wrap (n:ae)=((n%256:ab):ae):=YN
theorem rS:dS.wrap (n:ae)=((cV n).toNat:ae):=by
 rw[Dl];simp
theorem Az:fi.wrap (n:ae)=((n%4294967296:ab):ae):=YN
theorem re:ee.wrap (n:ae)=((n%18446744073709551616:ab):ae):=YN
theorem wrap_i64(n:ae)(h1: -9223372036854775808<=n)(h2:n<=9223372036854775807):eu.wrap n=n:=IntWalk.i64_in n ⟨h1,h2⟩
section
variable{P:aT}{vs:Y (ab×aR)}{rest:Y aW}
theorem AA(l:Y au):Lib.strCells ⟨l.toArray⟩=l.map gT:=rfl
theorem H7{w:aV}{u ty n:ab}(h:Sat O (own e 1 a n c xs::H) w)[ht:qQ P t e][hu:qm P u][hz:jH P e 1][Xw:Ap P e 1][Qd:TZ P e [.int .u8 0]](hb:n+l.length<=140737488355328):
 ∃a' c' w',(Builtin.append_ #[t,u] ty #[.slice a n c,bn l]).run P w=.ok (.slice a' (n+l.length) c') w'/\Sat O (own e 1 a' (n+l.length) c' (xs++l.map gT)::H) w':=by
 obtain⟨i,hi,Ar⟩:=cz.1 hz.out
 have B5:i.bytes=1:=bp1
 obtain⟨z,hzero,hzc⟩:=cz.1 Qd.out
 have uE:i.zero=aN z:=bQ
 have hls:(⟨l.toArray⟩:aJ).size=l.length:=Ay l
 have Qe:n+l.length<=maxLen:=bo hb aU2
 have hzs:z.cells.size=1:=by rw[show z.cells.size=z.cells.toList.length from by simp,hzc];rfl
 have hmap:(l.map gT).length=l.length:=dW
 rcases eR h with⟨rfl,rfl,rfl,rfl,hs⟩|⟨g,cur,rfl,h3,h6,h7,h8,h9,hs⟩
 ·by_cases hm:l=[]
  ·subst hm;refine⟨aO,0,w,?_,j6 _ _ hs⟩;have hf:=Lib.run_firstCells_string (P:=P) w 1 (⟨#[]⟩:aJ);have Xu:(Builtin.firstCells 1 0 (.string ⟨#[]⟩)).run P w=.ok #[] w:=hf;have hsz0:(⟨#[]⟩:aJ).size=0:=U;simp[Builtin.append_,cI ht.out,cI hu.out,sizeOf,typeInfo,hi,Ar,Builtin.lenOf,hsz0,Xu]
  ·have B6:0<l.length:=gL.2 hm
   have hr:=run_append_nil_string (P:=P) w t u ty e i z ht.out hu.out hi uE ⟨l.toArray⟩ bw bw bQ
   simp only[bT,hls]at Qe hr ⊢
   refine⟨_,_,_,hr,?_⟩
   have tt:=grownCap_ge w l.length 0 e
   refine gY (w:=_) (Sat.mR hs.drew _) dW tt (grownCap_le_maxLen w l.length 0 e Qe) ?_ ?_
   ·grind [size_zeroCells]
   ·simp only[Array.toList_append,Array.toList_map,bk,Nat.mul_one];exact List.take_left' dW
 ·by_cases Mz:n+l.length<=c
  ·have hcur:n+l.length<=cur.size:=bw;have hr:=Lib.run_append_room_string (P:=P) w t u ty e i ht.out hu.out hi Ar g n c cur (fF hs) ⟨l.toArray⟩ bw bw;rw[hls]at hr;refine⟨_,_,_,hr,?_⟩;have hlen:cur.toList.length=cur.size:=dW;simp only[Nat.mul_one]at h3 h8 h9;refine gY (Sat.setRow hs) ?_ Mz h7 ?_ ?_;all_goals grind [AA]
  ·have Dj:∀(j:ab) (v:aR),xs[j]?=aN v->w.cell? ((⟨g,0,aO⟩:aX).add j)=aN v:=by
    intro j v hj
    rw[addr_add,bT]
    have hg:=fF hs
    grind [gl]
   have hr:=Lib.run_append_grow_string (P:=P) w t u ty e i z ht.out hu.out hi uE ⟨g,0,aO⟩ n c xs bQ Dj ⟨l.toArray⟩ bw bw (by rw[B5,hls];exact growslice_fits bw bw);rw[hls]at hr;refine⟨_,_,_,hr,?_⟩;have tt:=grownCap_ge w (n+l.length) c e;refine gY (w:=_) (Sat.mR (hs.dE (bS.drop _ _)).drew _) bQ tt (grownCap_le_maxLen w (n+l.length) c e Qe) ?_ ?_;all_goals grind [size_zeroCells,AA]
theorem bl0[hk:Kt.pC k]{u n:ab}{x y:aY}[ht:qQ P t e][hu:qm P u][hz:jH P e 1][Xw:Ap P e 1][Qd:TZ P e [.int .u8 0]](hw:bO ops vs ⟨aN d,.call ⟨.builtin .append,#[x,y],#[t,u]⟩,ty,pos,af,g⟩=aN aP)(hn:bM d N=aP)(hx:fI vs x=aN (.slice a n c))(hy:fI vs y=aN (bn l))[ho:FO H a e 1 n c xs rs](hb:n+l.length<=140737488355328)(h:∀a' c',X P b O (aN (ops,rest)) k ⟨N,(d,.slice a' (n+l.length) c')::vs,ds⟩ (own e 1 a' (n+l.length) c' (xs++l.map gT)::rs) R):
 X P b O (aN (ops,⟨aN d,.call ⟨.builtin .append,#[x,y],#[t,u]⟩,ty,pos,af,g⟩::rest)) k ⟨N,vs,ds⟩ H R:=
 mN (ι:=ah aX×ab) (v:=λp=>.slice p.1 (n+l.length) p.2) (Hs':=λp=>own e 1 p.1 (n+l.length) p.2 (xs++l.map gT)::rs) U hn hw (λact w he oP=>by
  have e1:=bU he hx;have e2:=bU he hy;obtain⟨a',c',w',h4,h5⟩:=H7 (P:=P) (t:=t) (u:=u) (ty:=ty) (l:=l) (oP.dE ho.out) hb;exact⟨(a',c'),w',by simp[aU,resolve,invoke,builtin,e1,e2,h4],h5⟩) (λp=>h p.1 p.2)
theorem bE9(l:Y au):strOfNums (l.map λx=>(x.toNat:ae))=⟨l.toArray⟩:=by
 apply ByteArray.ext;apply Array.toList_inj.1;rw[strOfNums_data,dK];conv=>rhs;rw[show(ByteArray.data {data:=l.toArray}).toList=l from rfl,<-List.map_id l]
 apply cY;simp_all
theorem MJ{w:aV}{bl o n:ab}[hs:qQ P src e][he:vA P e .u8][hd:qm P dst](hl:l.length=n)(hc:∀i,i<n->w.cell? ⟨bl,o+i,aO⟩=aN (.int .u8 ((l.map λx=>(x.toNat:ae)).getD i 0))):
 (convert src dst (.slice (aN ⟨bl,o,aO⟩) n c)).run P w=.ok (bn l) w:=by
 have:=run_convert_bytes_arg (P:=P) w src e hs.out he.out bl o n c (l.map λx=>(x.toNat:ae)) UQ hc dst hd.out
 rw[this,bE9]
theorem IS{w:aV}[hs:qQ P src e][he:vA P e .u8][hd:qm P dst]:
 (convert src dst (.slice a 0 c)).run P w=.ok (bn []) w:=by
 cases a with
 |none=>exact run_convert_bytes_nil (P:=P) w src e hs.out he.out 0 c dst hd.out
 |some a=>
  have:=run_convert_bytes_string (P:=P) w src dst e (aN a) 0 c hs.out he.out hd.out;rw[this];rfl
theorem bl4{n:ab}{x:aY}[hs:qQ P src e][he:vA P e .u8][hd:qm P dst](hw:bO ops vs ⟨aN d,.convert src dst x,ty,pos,af,g⟩=aN aP)(hn:bM d N=aP)(hx:fI vs x=aN (.slice a n c))[hf:BQ H a RB 1 l](hl:l.length=n)(h:X P b O (aN (ops,rest)) k ⟨N,(d,bn l)::vs,ds⟩ H R):X P b O (aN (ops,⟨aN d,.convert src dst x,ty,pos,af,g⟩::rest)) k ⟨N,vs,ds⟩ H R:=
 X.val U hn hw (λact w Ib oP=>by
  have e1:=bU Ib hx;obtain⟨rr,hr⟩:=hf.out;have h1:xm RB 1 a l (hp w):=Sat.ro (oP.dE hr);by_cases mf:l=[]
  ·subst mf;simp at hl;subst hl;simp[aU,e1,IS]
  ·obtain⟨bl,o,rfl,h2⟩:=B9 (sz:=1) h1 mf;simp[aU,e1,MJ (l:=l) hl (by intro i hi;exact h2 i bw)]) h
theorem Ab{e' n:ab}{x:aY}[hs:qQ P src e][he:vA P e .u8][hd:qm P dst](hw:bO ops vs ⟨aN d,.convert src dst x,ty,pos,af,g⟩=aN aP)(hn:bM d N=aP)(hx:fI vs x=aN (.slice a n c))[hf:FO H a e' 1 n c cs rs](hl:cs=l.map gT)(h:X P b O (aN (ops,rest)) k ⟨N,(d,bn l)::vs,ds⟩ H R):X P b O (aN (ops,⟨aN d,.convert src dst x,ty,pos,af,g⟩::rest)) k ⟨N,vs,ds⟩ H R:=
 X.val U hn hw (λact w Ib oP=>by
  have e1:=bU Ib hx;subst hl;rcases eR (oP.dE hf.out)with⟨rfl,rfl,rfl,Qf,h2⟩|⟨g,cur,rfl,h3,h6,h7,h8,h9,h2⟩
  ·have:l=[]:=Ca;subst this;simp[aU,e1,IS]
  ·have pZ:l.length=n:=bQ;have:=MJ (P:=P) (w:=w) (src:=src) (dst:=dst) (bl:=g) (o:=0) (c:=c) (l:=l) pZ (by
    intro i hi
    have hil:i<l.length:=bw
    have hg:(l.map gT)[i]?=aN (gT l[i]):=by simp[hil]
    rw[bT]
    have:=vY oP hf.out hg
    grind [gT])
   simp[aU,e1,this]) h
theorem Kn[hk:Kt.pC k]{x:aY}[hs:qm P src][hd:qQ P dst e][he:vA P e .u8](hw:bO ops vs ⟨aN d,.convert src dst x,ty,pos,af,g⟩=aN aP)(hn:bM d N=aP)(hx:fI vs x=aN (bn l))(h:∀a c,l.length<=c->X P b O (aN (ops,rest)) k ⟨N,(d,.slice (aN a) l.length c)::vs,ds⟩ (dp RB 1 (aN a) l::H) R):X P b O (aN (ops,⟨aN d,.convert src dst x,ty,pos,af,g⟩::rest)) k ⟨N,vs,ds⟩ H R:=
 mN (ι:={p:aX×ab // l.length<=p.2}) (v:=λp=>.slice (aN p.1.1) l.length p.1.2) (Hs':=λp=>dp RB 1 (aN p.1.1) l::H) U hn hw (λact w Ib oP=>by
  have e1:=bU Ib hx
  have hr:=Lib.run_convert_string_bytes (P:=P) w src dst e ⟨l.toArray⟩ hs.out hd.out he.out
  rw[Ay]at hr
  have hge:=grownCap_ge w l.length 0 e
  refine⟨⟨(⟨w.heap.size,0,aO⟩,grownCap w l.length 0 e),hge⟩,Lib.bytesWorld w e ⟨l.toArray⟩,by grind [aU,cb,bJ,db],?_⟩
  have MK:=Lib.bytesWorld_at_new w e ⟨l.toArray⟩
  have hg:w.grownBy (Lib.bytesWorld w e ⟨l.toArray⟩) aO:=⟨U,U,U,by grind,λj hj _=>Lib.bytesWorld_at_old w e _ j hj⟩
  refine(Sat.freeze (P7 oP hg (Yu hr) MK (bz _))).dE ?_
  rintro r o ⟨o1,o2,hd,h1,h3,hp,ir⟩
  refine⟨gI,o2,ef _,dQ _,h3,λr' pg=>?_,ir⟩
  have hgg:=hp r' pg
  refine .inr ⟨_,0,U,λi x hx=>⟨[gT x],U,⟨_,_,_,hgg,λj v hv=>?_⟩,U⟩⟩
  grind [Lib.bytesCells,gT]) (λp=>h p.1.1 p.1.2 p.2)
theorem bo5{t' n:ab}{x y:aY}{p:ah aX}[ht:qQ P t e](hw:bO ops vs ⟨aN d,.binOp op t x y t',ty,pos,af,g⟩=aN aP)(hn:bM d N=aP)(hx:fI vs x=aN (.slice p n c))(hy:fI vs y=aN (.slice aO 0 0))(hv:(match op with|.eql=>aN (lx p.isNone)|.neq=>aN (lx p.isSome)|_=>aO)=aN v)(h:X P b O (aN (ops,rest)) k ⟨N,(d,v)::vs,ds⟩ H R):X P b O (aN (ops,⟨aN d,.binOp op t x y t',ty,pos,af,g⟩::rest)) k ⟨N,vs,ds⟩ H R:=
 X.val U hn hw (λa w he _=>by
  have e1:=bU he hx;have e2:=bU he hy;cases op<;>simp only[gR,reduceCtorEq]at hv;all_goals
   subst hv
   obtain⟨n,hn⟩:=sW
   cases p<;>simp[aU,e1,e2,eqGuard,binOp,hn,gq,cI ht.out]) h
theorem PZ[hk:Kt.pC k]{sz:ab}[ht:qQ P t e][zW:jH P e sz](hw:bO ops vs ⟨aN d,.buildSlice t 0 #[],ty,pos,af,g⟩=aN aP)(hn:bM d N=aP)(h:∀bl,X P b O (aN (ops,rest)) k ⟨N,(d,.slice (aN ⟨bl,0,aO⟩) 0 0)::vs,ds⟩ (own e sz (aN ⟨bl,0,aO⟩) 0 0 []::H) R):
 X P b O (aN (ops,⟨aN d,.buildSlice t 0 #[],ty,pos,af,g⟩::rest)) k ⟨N,vs,ds⟩ H R:=
 mN (v:=λbl=>.slice (aN ⟨bl,0,aO⟩) 0 0) (Hs':=λbl=>own e sz (aN ⟨bl,0,aO⟩) 0 0 []::H) U hn hw (λa w he hs=>by
  refine⟨w.heap.size,w.alloc (.cells #[] e),?_,gY (Sat.mR hs (.cells #[] e (0,0))) dW (bz _) (bp _) dW dW⟩
  simp[aU,Instr.buildSlice,cI ht.out,jR zW.out,Instr.fill,newRow]
  grind) h
end
class EqA(P:aT)(t:ab)(cs ds:Y aR)(b:ay ai):Prop where out:P.eqGuardType P.depth t=aQ/\∀w,(gq 10000 t (.agg cs.toArray) (.agg ds.toArray)).run P w=.ok b w
section
variable{P:aT}{vs:Y (ab×aR)}{rest:Y aW}
theorem bB7{t':ab}{x y:aY}{es:Y aR}{bv:ai}(hw:bO ops vs ⟨aN d,.binOp op t x y t',ty,pos,af,g⟩=aN aP)(hn:bM d N=aP)(hx:fI vs x=aN (.agg cs.toArray))(hy:fI vs y=aN (.agg es.toArray))[he:EqA P t cs es bv](hv:(match op with|.eql=>aN (lx bv)|.neq=>aN (lx !bv)|_=>aO)=aN v)(h:X P b O (aN (ops,rest)) k ⟨N,(d,v)::vs,ds⟩ H R):X P b O (aN (ops,⟨aN d,.binOp op t x y t',ty,pos,af,g⟩::rest)) k ⟨N,vs,ds⟩ H R:=
 X.val U hn hw (λa w Ib _=>by
  have e1:=bU Ib hx
  have e2:=bU Ib hy
  have e3:=run_eqGuard_agg (P:=P) w op t x y cs.toArray es.toArray he.out.1
  have e4:=he.out.2 w
  grind [run_eql_struct,aU,cb,bJ,db,run_neq_struct]) h
theorem S4{bl sz n:ab}{l:Y aR}(F:Y bG)(hl:eU l.length (n*sz)=aP)(hn:Nat.ble n 1000000=aP):VS (bx bl e l::F) (own e sz (aN ⟨bl,0,aO⟩) n n l::F):=λO w hs=>
 have hl:=fX hl
 have hn:=bH hn
 gY (cur:=l.toArray) hs hl (bz _) (by grind [maxLen]) UQ bQ
theorem EW{cc:ah (ar aW×Y aW)}{E:Env}(bl:ab)(sz n:ab){l:Y aR}[hf:FB H bl e l rs](hl:eU l.length (n*sz)=aP)(hn:Nat.ble n 1000000=aP)(h:X P b O cc k E (own e sz (aN ⟨bl,0,aO⟩) n n l::rs) R):X P b O cc k E H R:=X.dE hf.out (yK (S4 rs hl hn) h)
theorem aw4{c:ah (ar aW×Y aW)}{YO:Y ab}{E:Env}(hm:mark ops.size done=mark ops.size YO)(hl:done.length=YO.length)(h:X P b O aO (.dr ops T Fx YO kk) E H R):X P b O aO (.dr ops T Fx done kk) E H R:=by
 intro hb a w he hs
 have:=h hb a w he hs
 show rR _ _ _ _ _ _ _ _ _
 rw[hm,hl]
 exact this
theorem av8{E:Env}{i j l:ab}{o o' o'':Y aW}(Ew:nV ops=aP)(hr:tR ops done (upto ops.size [])=[i,j,l])(hn:bM done.length ops.size=aP)(ho:oneOf ops i=o)(ho':oneOf ops j=o')(ho'':oneOf ops l=o'')(h:X P b O (aN (ops,o)) (.uv ops T Fx i (i::done) kk) E H R)(h':X P b O (aN (ops,o')) (.uv ops T Fx j (j::done) kk) E H R)(h'':X P b O (aN (ops,o'')) (.uv ops T Fx l (l::done) kk) E H R):X P b O aO (.dr ops T Fx done kk) E H R:=PT Ew hr hn U (by subst ho;subst ho';subst ho'';exact⟨h,h',h''⟩)
end
class FJ(P:aT)(f:ab)(us:Y aR)(A:ay (Y bG))(v:ay aR):Prop where out:∀G,TR P G f us.toArray A (dX v)
section
variable{P:aT}{vs:Y (ab×aR)}{rest:Y aW}
theorem En[hk:Kt.pC k]{G:dA}(hG:G.on O){f:ab}{xs:Y aY}{us:Y aR}{sU:ar TypeId}{A:Y bG}(hw:bO ops vs ⟨aN d,.call ⟨.value (.func f),xs.toArray,sU⟩,ty,pos,af,g⟩=aN aP)(hn:bM d N=aP)(hx:oO vs xs=aN us)[hT:FJ P f us A v][uD:CF P f][hA:EK H A](h:X P b O (aN (ops,rest)) k ⟨N,(d,v)::vs,ds⟩ H R):
 X P b O (aN (ops,⟨aN d,.call ⟨.value (.func f),xs.toArray,sU⟩,ty,pos,af,g⟩::rest)) k ⟨N,vs,ds⟩ H R:=
 jJ hG (hT.out G) hw hn hx h
theorem bD{N:ab}{vs:Y (ab×aR)}{ds:Y Deferred}{c:ah (ar aW×Y aW)}(d:ab){t:ai}(u:ai)(hd:lk vs d=aN (.bool t))(h:t=u)
 (h1:X P b O c k ⟨N,(d,.bool u)::vs,ds⟩ H R):X P b O c k ⟨N,vs,ds⟩ H R:=by
 subst h
 cases t
 ·exact X.split d hd (λh=>by cases h) (λ_=>h1)
 ·exact X.split d hd (λ_=>h1) (λh=>by cases h)
end
section
variable{P:aT}{k:Y Item}{vs:Y (ab×aR)}
theorem X7{F:Y bG}{i j l d1 d2 d3 t1 t2 t3 y1 y2 y3:ab}{p1 p2 p3:aC}{a1 a2 a3:ar Edge}{z1 z2 z3:Y aR}[HX:TZ P t1 z1][hz2:TZ P t2 z2][hz3:TZ P t3 z3][hE:ES H Fx F](Ew:nV ops=aP)(hr:tR ops done (upto ops.size [])=[i,j,l])(ri:tR ops (i::done) (upto ops.size [])=[j,l])(rj:tR ops (j::done) (upto ops.size [])=[i,l])(rl:tR ops (l::done) (upto ops.size [])=[i,j])(rij:tR ops (j::i::done) (upto ops.size [])=[l])(ril:tR ops (l::i::done) (upto ops.size [])=[j])(rji:tR ops (i::j::done) (upto ops.size [])=[l])(rjl:tR ops (l::j::done) (upto ops.size [])=[i])(rli:tR ops (i::l::done) (upto ops.size [])=[j])(rlj:tR ops (j::l::done) (upto ops.size [])=[i])(hn:bM done.length ops.size=aP)(D7:bM (done.length+1) ops.size=aP)(vm:bM (done.length+2) ops.size=aP)(oi:oneOf ops i=[⟨aN d1,.alloc t1,y1,p1,a1,aO⟩])(oj:oneOf ops j=[⟨aN d2,.alloc t2,y2,p2,a2,aO⟩])(ol:oneOf ops l=[⟨aN d3,.alloc t3,y3,p3,a3,aO⟩])(h1:bM d1 N=aP)(h2:bM d2 N=aP)(h3:bM d3 N=aP)(e12:eU d1 d2=aQ)(e13:eU d1 d3=aQ)(e23:eU d2 d3=aQ)(m1:mark ops.size (j::l::i::done)=mark ops.size (l::j::i::done))(m2:mark ops.size (l::i::j::done)=mark ops.size (l::j::i::done))(m3:mark ops.size (i::l::j::done)=mark ops.size (l::j::i::done))(m4:mark ops.size (j::i::l::done)=mark ops.size (l::j::i::done))(m5:mark ops.size (i::j::l::done)=mark ops.size (l::j::i::done))(h:∀b1 b2 b3,X P b O aO (.dr ops T Fx (l::j::i::done) k) ⟨N,(d3,.pointer (aN ⟨b3,0,aO⟩))::(d2,.pointer (aN ⟨b2,0,aO⟩))::(d1,.pointer (aN ⟨b1,0,aO⟩))::vs,ds⟩ (bx b3 t3 z3::bx b2 t2 z2::bx b1 t1 z1::H) R):
 X P b O aO (.dr ops T Fx done k) ⟨N,vs,ds⟩ H R:=by
 have es:∀q:Y bG,bS (q++H) (Fx++(q++F)):=λq=>(bS.app q hE.out).trans (ew (by
  grind [List.Perm.append_right,cH]))
 have y6:∀{E:Env} {q:Y bG} {x:ab} {dn:Y ab},X P b O aO (.dr ops T Fx dn k) E (q++H) R->X P b O aO (.uv ops T Fx x dn k) E (q++H) R:=λ{E q x dn} hx=>X.uv (F:=q++F) (hE:=⟨es q⟩) hx
 have fin:∀{v1 v2 v3:ab×aR} {BP:Y (ab×aR)} {Hs':Y bG} {dn:Y ab} (b1 b2 b3:ab),mark ops.size dn=mark ops.size (l::j::i::done)->dn.length=(l::j::i::done).length->
  (∀t,lk ((d3,.pointer (aN ⟨b3,0,aO⟩))::(d2,.pointer (aN ⟨b2,0,aO⟩))::(d1,.pointer (aN ⟨b1,0,aO⟩))::vs) t=lk BP t)->Hs'.Perm (bx b3 t3 z3::bx b2 t2 z2::bx b1 t1 z1::H)->
  X P b O aO (.dr ops T Fx dn k) ⟨N,BP,ds⟩ Hs' R:=by
  intro v1 v2 v3 BP Hs' dn b1 b2 b3 hm hl hv hH
  exact aw4 (c:=aO) hm hl (X.less (h b1 b2 b3) (λt v e=>by grind) (ew hH))
 have Dn:∀t,eU d1 t=aP->eU d2 t=aQ:=bp3
 have Ic:∀t,eU d1 t=aP->eU d3 t=aQ:=bp3
 have b23:∀t,eU d2 t=aP->eU d3 t=aQ:=bp3
 have lk3:∀(x y z:aR) (t:ab),lk ((d3,z)::(d2,y)::(d1,x)::vs) t=if eU d1 t then aN x else if eU d2 t then aN y else if eU d3 t then aN z else lk vs t:=by
  grind [lk]
 refine av8 Ew hr hn oi oj ol ?_ ?_ ?_
 ·refine kq U h1 λb1=>?_;refine X.go 1 U U (y6 (q:=[_]) (eN Ew ri bw oj ol ?_ ?_))
  ·refine kq U h2 λb2=>X.go 1 U U (y6 (q:=[_,_]) (nU Ew rij bw ol ?_));exact kq U h3 λb3=>X.go 1 U U (y6 (q:=[_,_,_]) (h b1 b2 b3))
  ·refine kq U h3 λb3=>X.go 1 U U (y6 (q:=[_,_]) (nU Ew ril bw oj ?_))
   refine kq U h2 λb2=>X.go 1 U U (y6 (q:=[_,_,_]) (fin (v1:=(0,undef)) (v2:=(0,undef)) (v3:=(0,undef)) b1 b2 b3 m1 U ?_ ?_))
   ·grind [lk]
   ·exact fM _ _ _
 ·refine kq U h2 λb2=>?_;refine X.go 1 U U (y6 (q:=[_]) (eN Ew rj bw oi ol ?_ ?_))
  ·refine kq U h1 λb1=>X.go 1 U U (y6 (q:=[_,_]) (nU Ew rji bw ol ?_))
   refine kq U h3 λb3=>X.go 1 U U (y6 (q:=[_,_,_]) (fin (v1:=(0,undef)) (v2:=(0,undef)) (v3:=(0,undef)) b1 b2 b3 m2 U ?_ ?_))
   ·grind [lk]
   ·exact iJ _ (fM _ _ _)
  ·refine kq U h3 λb3=>X.go 1 U U (y6 (q:=[_,_]) (nU Ew rjl bw oi ?_))
   refine kq U h1 λb1=>X.go 1 U U (y6 (q:=[_,_,_]) (fin (v1:=(0,undef)) (v2:=(0,undef)) (v3:=(0,undef)) b1 b2 b3 m3 U ?_ ?_))
   ·grind [lk]
   ·exact aU8
 ·refine kq U h3 λb3=>?_;refine X.go 1 U U (y6 (q:=[_]) (eN Ew rl bw oi oj ?_ ?_))
  ·refine kq U h1 λb1=>X.go 1 U U (y6 (q:=[_,_]) (nU Ew rli bw oj ?_))
   refine kq U h2 λb2=>X.go 1 U U (y6 (q:=[_,_,_]) (fin (v1:=(0,undef)) (v2:=(0,undef)) (v3:=(0,undef)) b1 b2 b3 m4 U ?_ ?_))
   ·grind [lk]
   ·exact(iJ _ (fM _ _ _)).trans (fM _ _ _)
  ·refine kq U h2 λb2=>X.go 1 U U (y6 (q:=[_,_]) (nU Ew rlj bw oi ?_));refine kq U h1 λb1=>X.go 1 U U (y6 (q:=[_,_,_]) (fin (v1:=(0,undef)) (v2:=(0,undef)) (v3:=(0,undef)) b1 b2 b3 m5 U ?_ ?_))
   ·intro t;rw[lk3];simp only[lk];cases q1:eU d1 t<;>cases q2:eU d2 t<;>cases q3:eU d3 t<;>simp;all_goals first|(have h9:=Dn t q1;rw[h9]at q2;exact aD q2 eK)|(have h9:=Ic t q1;rw[h9]at q3;exact aD q3 eK)|(have h9:=b23 t q2;rw[h9]at q3;exact aD q3 eK)
   ·exact(fM _ _ _).trans ((iJ _ (fM _ _ _)).trans (fM _ _ _))
end
abbrev bu(b:ab):aR:=.pointer (aN ⟨b,0,aO⟩)
theorem bS.shut{κ α:Type}(pred:κ->α->bG)(key:κ)(x:α){f:ι->Y bG}(hd:pred key x=ex f)(i:ι){H:Y bG}[he:ES H (f i) rest]:bS H (pred key x::rest):=
 he.out.trans (hd▸iY i rest)
theorem pB{κ α:Type}(pred:κ->α->bG)(key:κ)(x:α){f:ι->Y bG}(hd:pred key x=ex f)(i:ι){H:Y bG}[he:ES H (f i) rest]:bS H [pred key x]:=
 (bS.shut pred key x hd i).trans (ia [_] _)
end
section
variable{F A B1 B2:Y bG}{rs:Y ResultVar}{l f n D c t f0 e Tk:ab}{r:Loop}{a:ah aX}{cap us cs:Y aR}{ps:Y ab}{sU:ar TypeId}{Q:aR->Y bG->Prop}{p:Prop}{args:ar aR}{b49 bd:Code}{P:aT}{xs:Y au}(L:Y bG)(bl:ab)
section
variable{P:aT}
theorem Yc{α:Type}{Re:Rp α}{rs:Y bG}[hf:FB H bl t cs rs](ys:Y (ah aX×ab×Y α))(tr:cs=ys.map λy=>.slice y.1 y.2.2.length y.2.1)(hc:∀y∈ys,y.2.2.length<=y.2.1)(hr:∀y∈ys,∃F,bS rs (dp Re Tk y.1 y.2.2::F))(h:X P b O cc k E (dp (RSl Re Tk) 1 (aN ⟨bl,0,aO⟩) (ys.map (·.2.2))::rs) R):X P b O cc k E H R:=by
 refine X.dE hf.out (yK ?_ h)
 intro O w hs
 have h1:=Sat.freeze hs
 refine h1.dE ?_
 rintro r o ⟨o1,o2,hd,h2,h3,hp,ir⟩
 refine⟨gI,o2,ef _,dQ _,h3,λr' pg=>?_,ir⟩
 have hg:=hp r' pg
 refine .inr ⟨bl,0,U,λi x hx=>?_⟩
 rw[eX]at hx
 cases hy:ys[i]? with
 |none=>grind
 |some y=>
  rw[hy]at hx
  have hx':y.2.2=x:=bQ
  subst hx'
  have jv:y∈ys:=List.mem_of_getElem? hy
  refine⟨[.slice y.1 y.2.2.length y.2.1],U,⟨cs.toArray,t,(0,0),hg,λj v hv=>?_⟩,y.1,y.2.1,U,hc y jv,?_⟩
  ·grind
  ·obtain⟨F,hF⟩:=hr y jv;obtain⟨_,_,_,_,_,hq,_⟩:=hF r o2 ir;exact hq r' pg
theorem Ki{α:Type}{Re:Rp α}{x:Y α}{rs:Y bG}[hf:FB H bl t [.slice a n c] rs][h1:BQ rs a Re Tk x](hn:x.length=n)(hc:n<=c)(h:X P b O cc k E (dp (RSl Re Tk) 1 (aN ⟨bl,0,aO⟩) [x]::rs) R):X P b O cc k E H R:=
 Yc bl [(a,c,x)] UU fD (by simp;exact h1.out) h
theorem bm5{n' c':ab}{a':ah aX}{α:Type}{Re:Rp α}{x x':Y α}{rs:Y bG}[hf:FB H bl t [.slice a n c,.slice a' n' c'] rs][h1:BQ rs a Re Tk x][h2:BQ rs a' Re Tk x'](hn:x.length=n)(hc:n<=c)(hn':x'.length=n')(hc':n'<=c')(h:X P b O cc k E (dp (RSl Re Tk) 1 (aN ⟨bl,0,aO⟩) [x,x']::rs) R):X P b O cc k E H R:=
 Yc bl [(a,c,x),(a',c',x')] (by simp[hn,hn']) fD (by simp;exact⟨h1.out,h2.out⟩) h
end
section
variable{P:aT}
theorem dR(a:ah aX){sz:ab}{rs:Y bG}[ho:FO H a e sz n c cs rs]{α:Type}(cC:α->Y aR)(xs:Y α)(he:cs=xs.flatMap cC)(hn:n=xs.length)(hs:∀x,(cC x).length=sz)(h:n<=c->X P b O cc k E (dp (cy cC) sz a xs::rs) R):X P b O cc k E H R:=by
 refine j9 λw oP=>?_
 have h1:=oP.dE ho.out
 have hc:n<=c:=by
  rcases eR h1 with⟨_,h2,h3,_⟩|⟨_,_,_,_,h6,_⟩;all_goals omega
 subst he
 exact⟨_,VS.freeze rs hn hs O w h1,h hc⟩
theorem lP(l:Y au):l.map gT=l.flatMap λx=>[gT x]:=by
 induction l<;>grind
theorem jz(a:ah aX){l:Y au}{rs:Y bG}[ho:FO H a e 1 n c (l.map gT) rs](hn:n=l.length)(h:n<=c->X P b O cc k E (dp RB 1 a l::rs) R):X P b O cc k E H R:=
 dR a (λx=>[gT x]) l (lP l) hn (λ_=>rfl) h
end
section
variable{P:aT}{vs:Y (ab×aR)}{rest:Y aW}
theorem jA[hk:Kt.pC k]{m c2:ab}{x y:aY}{a2:ah aX}{zs ys:Y au}{rs:Y bG}[ht:qQ P t e][hz:jH P e 1][Xw:Ap P e 1][Qd:TZ P e [.int .u8 0]](hw:bO ops vs ⟨aN d,.call ⟨.builtin .append,#[x,y],#[t,t]⟩,ty,pos,af,g⟩=aN aP)(hn:bM d N=aP)(hx:fI vs x=aN (.slice a n c))(hy:fI vs y=aN (.slice a2 m c2))[ho:FO H a e 1 n c (zs.map gT) rs][hs:BQ rs a2 RB 1 ys](hm:ys.length=m)(hb:zs.length+ys.length<=140737488355328)(h:∀a' c',X P b O (aN (ops,rest)) k ⟨N,(d,.slice a' (zs++ys).length c')::vs,ds⟩ (own e 1 a' (zs++ys).length c' ((zs++ys).map gT)::rs) R):
 X P b O (aN (ops,⟨aN d,.call ⟨.builtin .append,#[x,y],#[t,t]⟩,ty,pos,af,g⟩::rest)) k ⟨N,vs,ds⟩ H R:=by
 refine j9 λw oP=>?_
 have h1:=oP.dE ho.out
 have hl:n=zs.length:=aU9
 refine⟨_,oP,?_⟩
 subst hl
 refine Kp (cC:=λx=>[gT x]) hw hn hx hy hm U (λ_=>rfl) (λ_=>rfl) U bw λa' c'=>?_
 have:=h a' c'
 grind [lP]
theorem Eo[hk:Kt.pC k]{u:ab}{x y:aY}{zs l:Y au}{rs:Y bG}[ht:qQ P t e][hu:qm P u][hz:jH P e 1][Xw:Ap P e 1][Qd:TZ P e [.int .u8 0]](hw:bO ops vs ⟨aN d,.call ⟨.builtin .append,#[x,y],#[t,u]⟩,ty,pos,af,g⟩=aN aP)(hn:bM d N=aP)(hx:fI vs x=aN (.slice a n c))(hy:fI vs y=aN (bn l))[ho:FO H a e 1 n c (zs.map gT) rs](hb:zs.length+l.length<=140737488355328)(h:∀a' c',X P b O (aN (ops,rest)) k ⟨N,(d,.slice a' (zs++l).length c')::vs,ds⟩ (own e 1 a' (zs++l).length c' ((zs++l).map gT)::rs) R):
 X P b O (aN (ops,⟨aN d,.call ⟨.builtin .append,#[x,y],#[t,u]⟩,ty,pos,af,g⟩::rest)) k ⟨N,vs,ds⟩ H R:=by
 refine j9 λw oP=>?_
 have h1:=oP.dE ho.out
 have hl:n=zs.length:=aU9
 refine⟨_,oP,?_⟩
 subst hl
 refine bl0 hw hn hx hy hb λa' c'=>?_
 have:=h a' c'
 grind
end
theorem uG{O:de}{H:Y bG}{w:aV}(hs:Sat O H w)[hf:BQ H a RB 1 xs](hn:xs.length=n):
 (Extern.Bytes.bytesOf (.slice a n c)).run P w=.ok ⟨xs.toArray⟩ w:=by
 obtain⟨rr,hr⟩:=hf.out
 have h1:xm RB 1 a xs (hp w):=Sat.ro (hs.dE hr)
 by_cases mf:xs=[]
 ·subst mf;simp at hn;subst hn;cases a with
  |none=>simp[Extern.Bytes.bytesOf];rfl
  |some a=>simp[Extern.Bytes.bytesOf,Extern.Bytes.loadBytes];rfl
 ·obtain⟨b,o,rfl,h2⟩:=B9 (sz:=1) h1 mf;have hl:=Lib.run_loadBytesX (P:=P) (w:=w) (xs.map λx=>(x.toNat:ae)) ⟨b,o,aO⟩ .empty (λj x hj=>by
   have hjl:j<xs.length:=by simpa using(List.getElem?_eq_some_iff.1 hj).1
   rw[addr_add,h2 j hjl,List.getD_eq_getElem?_getD,hj];rfl)
  rw[Dk,bF,hn]at hl;simp only[Extern.Bytes.bytesOf,hl];simp_all
theorem az0{O:de}{H:Y bG}{w:aV}(cv:au)(hs:Sat O H w)[hf:BQ H a RB 1 xs](hn:xs.length=n):
 (Extern.BytealgCount.count #[.slice a n c,.int .u8 cv.toNat]).run P w=.ok (.int .i64 (cZ xs cv)) w:=by
 have h1:=uG (P:=P) (a:=a) (c:=c) hs hn
 have h2:=Lib.run_countString (P:=P) ⟨xs.toArray⟩ cv.toNat w
 change gz P (do
  let b<-Extern.Bytes.bytesOf (.slice a n c)
  let c'<-Extern.Bytes.asByte (.int .u8 cv.toNat)
  pure (goInt (b.foldl (λn x=>if x==c' then n+1 else n) (0:ab)))) w=_
 change gz P (do
  let b<-Extern.Bytes.bytesOf (.string ⟨xs.toArray⟩)
  let c'<-Extern.Bytes.asByte (.int .u8 cv.toNat)
  pure (goInt (b.foldl (λn x=>if x==c' then n+1 else n) (0:ab)))) w=_ at h2
 rw[cb,h1,bJ]
 rw[cb,show(Extern.Bytes.bytesOf (.string ⟨xs.toArray⟩)).run P w=.ok ⟨xs.toArray⟩ w from rfl,bJ]at h2
 rw[h2]
 simp
def cnd(p:Prop)(q:bG):bG:=⟨λr o=>p->q.h r o,λhr ho h hp=>q.mono hr ho (h hp)⟩
theorem Yo(p:Prop)(q:bG)(F:Y bG):bS (q::F) (cnd p q::F):=λ_ _ ⟨o1,o2,hd,h1,h2,hq,hs⟩=>⟨o1,o2,hd,h1,h2,λ_=>hq,hs⟩
theorem XZ(h:¬p)(q:bG)(F:Y bG):bS F (cnd p q::F):=λ_ o hs=>⟨gI,o,ef _,dQ _,.refl _,λhp=>aD hp h,hs⟩
theorem Ym(h:p)(q:bG)(F:Y bG):bS (cnd p q::F) (q::F):=λ_ _ ⟨o1,o2,hd,h1,h2,hq,hs⟩=>⟨o1,o2,hd,h1,h2,hq h,hs⟩
class FCn(H:Y bG)(p:Prop)(q:ay bG)(rest:ay (Y bG)):Prop where out:bS H (cnd p q::rest)
instance FCn.here(p:Prop)(q:bG)(H:Y bG):FCn (cnd p q::H) p q H:=⟨bS.refl _⟩
instance(priority:=low) FCn.there(x:bG)(H:Y bG)(p:Prop)(q:bG)(rest:Y bG)[h:FCn H p q rest]:FCn (x::H) p q (x::rest):=
 ⟨(bS.cons x h.out).trans (eo _ _ _)⟩
section
variable{P:aT}
theorem Ep(m:ab)(zs:Y au){l:Y aR}{rs:Y bG}[hf:FB H bl e l rs](hz:l=zs.map gT)(hl:zs.length=m)(hn:Nat.ble m 1000000=aP)(h:X P b O cc k E (own e 1 (aN ⟨bl,0,aO⟩) m m (zs.map gT)::rs) R):X P b O cc k E H R:=by
 subst hz
 exact X.dE hf.out (yK (S4 (sz:=1) rs UQ hn) h)
theorem XS(hp:p){q:bG}{rest:Y bG}[hf:FCn H p q rest](h:X P b O cc k E (q::rest) R):X P b O cc k E H R:=
 X.dE (hf.out.trans (Ym hp q rest)) h
end
def YT(P:aT)(G:dA)(l:ab)(args:ar aR)(A:Y bG)(R:aZ->Y bG->Prop):Prop:=
 ∀(O:de) (w:aV),G.on O->Sat O A w->∃f tmps b49 bd,(Instr.yield l args).run P w=.ok (.round l f tmps b49 bd) w/\∀ro,RoundIn (Fw ro) 0 P l f tmps b49 bd w (wc O R)
def YQ(B1 B2:Y bG)(v:aR)(B:Y bG):Prop:=(v=.bool aP/\B=B1)\/(v=.bool aQ/\B=B2)
def IT(P:aT)(G:dA)(f:FuncId)(cap:Y aR)(A:Y bG){α:Type}(cC:α->Y aR)(xs:Y α):Prop:=
 ∀(l:ab) (I:Y α->Y bG) (J:Y bG),
  (∀pre x post,xs=pre++x::post->YT P G l (cC x).toArray (I pre) (dC (YQ (I (pre++[x])) J)))->
  TR P G f (.func (.yield l) #[] #[]::cap).toArray (A++I []) (dC λ_ B=>B=A++I xs\/B=A++J)
def AB:Y ab->Y aR->Y (ab×aR)->Y (ab×aR)
 |p::ps,v::us,vs=>AB ps us ((p,v)::vs)
 |_,_,vs=>vs
def XR(P:aT)(b:bc)(O:de)(E:Env)(H:Y bG)(R:aZ->Y bG->Prop):Prop:=
 b.kind=.normal->∀a w,ik E a->Sat O H w->Unw P b .returning a w (wc O R)
section
variable{P:aT}{vs:Y (ab×aR)}{rest:Y aW}
theorem SS{k:Y Item}{G:dA}(hG:G.on O){xs:Y aY}(hT:YT P G l us.toArray A (dC Q))(hw:bO ops vs ⟨aN d,.call ⟨.value (.tmp t),xs.toArray,sU⟩,ty,pos,af,g⟩=aN aP)(hn:bM d N=aP)(ht:lk vs t=aN (.func (.yield l) #[] #[]))(hx:oO vs xs=aN us)(hA:bS H (A++F))(h:∀v B,Q v B->X P b O (aN (ops,rest)) (.it k) ⟨N,(d,v)::vs,ds⟩ (B++F) R):
 X P b O (aN (ops,⟨aN d,.call ⟨.value (.tmp t),xs.toArray,sU⟩,ty,pos,af,g⟩::rest)) (.it k) ⟨N,vs,ds⟩ H R:=by
 intro hb a w he hs
 obtain⟨β',hβ,Ao,sT⟩:=mo (hs.dE hA)
 obtain⟨f,tmps,b49,bd,hy,hr⟩:=hT β' w (G.mono hβ hG) Ao
 have h1:=mg he hx
 have h2:xs.toArray.map a.eval=us.toArray:=bQ
 have h3:a.eval (.tmp t)=.func (.yield l) #[] #[]:=bU (x:=.tmp t) he ht
 have hex:(aU a.eval ⟨aN d,.call ⟨.value (.tmp t),xs.toArray,sU⟩,ty,pos,af,g⟩).run P w=.ok (.round l f tmps b49 bd) w:=by
  grind [aU,resolve,Deferred.ofValue,invoke]
 refine bn6 (lU (E:=⟨N,vs,ds⟩) he hw) hex (hr b.roundOf) ?_ ?_ ?_
 ·exact aT9
 ·rintro ch w' ⟨B,hB,Fi⟩;exact hB
 ·rintro w' ⟨B,hB,Fi⟩;exact hB
theorem tO{w:aV}{x:Obj}(h:Sat O (Sl.pt l x::F) w)(y:Obj):Sat O (Sl.pt l y::F) (w.putObj l y):=Sat.setObj h
theorem bB4{k:Y Item}(mM:b.roundOf=aN l)(hE:bS H (pt l (.loop r)::F))(hr:r.state=.ready)(h:X P b O aO (.it k) E (pt l (.loop {r with state:=.busy})::F) R):X P b O aO (.it (.beginRound::k)) E H R:=by
 intro hb a w he hs
 have h1:=hs.dE hE
 exact .step (λ_=>stepR_beginRound mM (run_beginRound (fF h1) hr)) (h hb a _ he (tO h1 _))
theorem bm0(mM:b.roundOf=aN l)(hE:bS H (pt l (.loop r)::F))(h:∃B,R (.returned (.bool aP)) B/\bS (pt l (.loop {r with state:=.ready,pending:=aO})::F) B):X P b O aO (.it []) E H R:=by
 intro hb a w he hs cs tr
 have h1:=hs.dE hE
 obtain⟨B,hB,hEB⟩:=h
 cases cs with
 |nil=>grind
 |cons c cs=>
  refine⟨.returned (.bool aP),_,lone (c.finish (.bool aP)) cs _,⟨B,hB,(tO h1 _).dE hEB⟩,.one (stepR_round_end mM hb (run_endRound aO (fF h1))),?_⟩
  grind [Fc]
theorem bk8{k:Y Item}(mM:b.roundOf=aN l)(hE:bS H (pt l (.loop r)::F))(h:∃B,R (.returned (.bool aQ)) B/\bS (pt l (.loop {r with state:=.done,pending:=aN .ret})::F) B):X P b O aO (.it (.code .ret::k)) E H R:=by
 intro hb a w he hs cs tr
 have h1:=hs.dE hE
 obtain⟨B,hB,hEB⟩:=h
 cases cs with
 |nil=>grind
 |cons c cs=>
  refine⟨.returned (.bool aQ),_,lone (c.finish (.bool aQ)) cs _,⟨B,hB,(tO h1 _).dE hEB⟩,.one (stepR_round_ret mM hb (run_endRound (aN .ret) (fF h1))),?_⟩
  grind [Fc]
theorem EU:∀{ps:Y ab} {us:Y aR} {n:ab} {vs:Y (ab×aR)} {t:ar aR} {df:Y Deferred},(∀p∈ps,bM p n=aP)->ps.length=us.length->ik ⟨n,vs,df⟩ ⟨t,df⟩->
 ik ⟨n,Sl.AB ps us vs,df⟩ ⟨(ps.zip us).foldl (λt (p,v)=>t.setIfInBounds p v) t,df⟩
 |[],us,n,vs,t,df,_,_,h=>by simpa[Sl.AB]using h
 |p::ps,[],n,vs,t,df,_,hl,h=>by simp at hl
 |p::ps,v::us,n,vs,t,df,hp,hl,h=>by
  have h1:=ik.put (E:=⟨n,vs,df⟩) h (hp p dW) v;exact EU (ps:=ps) (us:=us) (λq hq=>hp q (by simp[hq])) (by simpa using hl) h1
theorem YT.of{G:dA}{vs:Y (ab×aR)}(hA:∃F,bS A (pt l (.loop r)::F))(hps:r.params=ps.toArray)(hl:ps.length=us.length)(hp:∀p∈ps,bM p n=aP)(hE:ik ⟨n,vs,[]⟩ ⟨r.tmps,[]⟩)(h:∀b O,b.fn=r.fn->b.roundOf=aN l->G.on O->X P b O aO (.it [.code r.assign,.beginRound,.code r.body]) ⟨n,AB ps us vs,[]⟩ A R):YT P G l us.toArray A R:=by
 intro O w hG hs
 obtain⟨F,hF⟩:=hA
 have h1:=fF (hs.dE hF)
 have hy:=run_yield (P:=P) (args:=us.toArray) h1 (by rw[hps];simp[hl])
 refine⟨_,_,_,_,hy,λro=>⟨trivial,λc cs _=>?_⟩⟩
 have h2:=h {(default:bc)with fn:=r.fn,kind:=.normal,roundOf:=aN l} O U U hG U _ w (EU hp hl hE) hs (c::cs) dW
 obtain⟨e,w',m',hR,hc,dF⟩:=h2
 unfold Fc at dF
 obtain⟨c',LY,heq,rfl⟩:=dF
 cases heq
 refine⟨e,w',hR,?_⟩
 have hfr:Frame.round l r.fn ((r.params.zip us.toArray).foldl (λtmps (t,a)=>tmps.setIfInBounds t a) r.tmps) r.assign r.body .normal=
  ({(default:bc)with fn:=r.fn,kind:=.normal,roundOf:=aN l}:bc).atR ⟨(ps.zip us).foldl (λt (p,v)=>t.setIfInBounds p v) r.tmps,[]⟩ [.code r.assign,.beginRound,.code r.body]:=by
  have hz:(r.params.zip us.toArray).foldl (λtmps (x:ab×aR)=>tmps.setIfInBounds x.1 x.2) r.tmps=(ps.zip us).foldl (λt (x:ab×aR)=>t.setIfInBounds x.1 x.2) r.tmps:=by
   rw[hps];simp[List.zip_toArray]
  simp only[Frame.round,Frame.atR,hz]
 rw[hfr]
 cases e with
 |outgrown=>exact hc
 |returned v=>exact(stepsIn_wide (P:=P)).2 hc
 |panicked ch=>exact(stepsIn_wide (P:=P)).2 hc
end
def ITU(P:aT)(G:dA)(f:FuncId)(cap:Y aR)(A:Y bG){α:Type}(cC:α->Y aR)(pok:Y α->α->Prop)(fok:Y α->Y bG->Prop)(sok:Y bG->Prop):Prop:=
 ∀(l:ab) (I:Y α->Y bG) (J:Y bG),(∀pre x,pok pre x->YT P G l (cC x).toArray (I pre) (dC (YQ (I (pre++[x])) J)))->
  TR P G f (.func (.yield l) #[] #[]::cap).toArray (A++I []) (dC λ_ B=>(∃ys A2,fok ys A2/\B=A2++I ys)\/∃A3,sok A3/\B=A3++J)
theorem TR.rm{G:dA}{f:FuncId}{Q':aR->Y bG->Prop}(h:TR P G f args A (dC Q))(hq:∀v B,Q v B->Q' v B):TR P G f args A (dC Q'):=
 h.eY (bS.refl _) λe B hB=>by
  cases e with
  |returned v=>exact⟨B,hq v B hB,bS.refl _⟩
  |_=>exact hB.elim
section
variable{P:aT}{vs:Y (ab×aR)}
theorem XR.mark(nA:nL b f)[hf:FR P f rs]{l:Y aR}(hE:bS H (pt D (.deferred (aN []))::F))(hl:kK P ⟨N,vs,[⟨.collected D,#[]⟩]⟩ F rs l)(h:∃C,R (.returned (mv l)) C/\bS F C):XR P b O ⟨N,vs,[⟨.collected D,#[]⟩]⟩ H R:=by
 intro hb a w he hs todo cs _
 obtain⟨fn,h1,rfl⟩:=hf.out
 obtain⟨C,h2,h3⟩:=h
 have h4:=hs.dE hE
 have ir:=step_collected (P:=P) (fr:={b.atR a todo with mode:=.returning}) (cs:=cs) (w:=w) (d:=⟨.collected D,#[]⟩) (ds:=[]) dW he.2.1 U (run_takeDeferred (fF h4))
 have h5:=(tO h4 (.deferred aO)).dE (bS.drop _ _)
 refine⟨.returned (mv l),_,_,⟨C,h2,h5.dE h3⟩,.one ir,.mk nA.ro U ⟨U,U,hb,fn,?_,?_⟩⟩
 ·show P.funcs[b.fn]?=aN fn;rw[nA.fn];exact h1
 ·exact oo (hl O a _ he h5)
theorem bn8{k:Y Item}{E:Env}(nA:nL b f)(h:XR P b O E H R):X P b O aO (.it (.code .ret::k)) E H R:=by
 intro hb a w he hs cs tr;obtain⟨e,w',m',hR,hc,dF⟩:=h hb a w he hs (.code .ret::k) cs tr;exact⟨e,w',m',hR,.of_steps (.one (stepR_ret nA.ro)) hc,dF⟩
theorem aw2{E:Env}(nA:nL b f)(h:XR P b O E H R):X P b O aO (.it []) E H R:=by
 intro hb a w he hs cs tr;obtain⟨e,w',m',hR,hc,dF⟩:=h hb a w he hs [] cs tr;exact⟨e,w',m',hR,.of_steps (.one (stepR_end nA.ro)) hc,dF⟩
theorem bn7{k:Y Item}(nA:nL b f)[hf:FR P f rs]{l:Y aR}(hE:bS H (pt D (.deferred (aN []))::F))(hl:kK P ⟨N,vs,[⟨.collected D,#[]⟩]⟩ F rs l)(h:∃C,R (.returned (mv l)) C/\bS F C):X P b O aO (.it (.code .ret::k)) ⟨N,vs,[⟨.collected D,#[]⟩]⟩ H R:=bn8 nA (XR.mark nA hE hl h)
theorem Yi(nA:nL b f)[hf:FR P f rs]{l:Y aR}(hE:bS H (pt D (.deferred (aN []))::F))(hl:kK P ⟨N,vs,[⟨.collected D,#[]⟩]⟩ F rs l)(h:∃C,R (.returned (mv l)) C/\bS F C):X P b O aO (.it []) ⟨N,vs,[⟨.collected D,#[]⟩]⟩ H R:=aw2 nA (XR.mark nA hE hl h)
def QF(P:aT)(b:bc)(O:de)(k:Y Item)(R:aZ->Y bG->Prop):Exit->Act->aV->Prop
 |.normal,a,w=>yy P b k a w (wc O R)
 |.ret,a,w=>Unw P b .returning a w (wc O R)
 |_,_,_=>False
theorem L4{k:Y Item}{c:Code}{a:Act}{w:aV}(mM:b.roundOf=aO)(h:c.wpIn (Fw b.roundOf) 0 P (QF P b O k R) a w):yy P b (.code c::k) a w (wc O R):=by
 intro cs tr;obtain⟨e,a',w',hq,ax2⟩:=h b k cs U trivial (Fw.room _ _);cases e with
 |normal=>
  obtain⟨e,wa,fr,r,c,rest⟩:=hq cs tr;exact aT1
 |ret=>
  obtain⟨todo,hs⟩:=ax2.1 mM;obtain⟨e,wa,fr,r,c,rest⟩:=hq todo cs tr;exact aT2
 |exit i=>exact hq.elim
 |goto i=>exact hq.elim
 |panic ch=>exact hq.elim
 |outgrown=>exact hq.elim
theorem E0{G:dA}(hG:G.on O)(nA:nL b f0)[uD:CF P f]{g:aY}{k:Y Item}{α:Type}{cC:α->Y aR}{pok:Y α->α->Prop}{fok:Y α->Y bG->Prop}{sok:Y bG->Prop}(hit:ITU P G f cap A cC pok fok sok)(hg:fI vs g=aN (.func (.func f) #[] cap.toArray))(I:Y α->Y bG)(J:Y bG)(hA:bS H (A++I []++F))(hl:∀x,ps.length=(cC x).length)(hp:∀p∈ps,bM p N=aP)(body:∀(b':bc) (β':de) (l:ab) (r:Loop) (pre:Y α) (x:α),pok pre x->b'.roundOf=aN l->G.on β'->r.state=.ready->
  X P b' β' aO (.it [.code b49,.beginRound,.code bd]) ⟨N,AB ps (cC x) vs,[]⟩ (pt l (.loop r)::I pre) (dC (YQ (pt l (.loop {r with state:=.ready,pending:=aO})::I (pre++[x])) (pt l (.loop {r with state:=.done,pending:=aN .ret})::J))))(done:∀D ys A2,fok ys A2->X P b O aO (.it k) ⟨N,vs,⟨.collected D,#[]⟩::ds⟩ (pt D (.deferred (aN []))::(A2++I ys++F)) R)(stop:∀D A3,sok A3->XR P b O ⟨N,vs,⟨.collected D,#[]⟩::ds⟩ (pt D (.deferred (aN []))::(A3++J++F)) R):
 X P b O aO (.it (.code (.rangeFunc g ps.toArray b49 bd)::k)) ⟨N,vs,ds⟩ H R:=by
 intro hb a w he hs
 refine L4 nA.ro (wpIn_rangeFunc λfn _=>?_)
 obtain⟨rec,Ie⟩:∃rec:Loop,rec={state:=.ready,pending:=aO,fn:=fn,tmps:=a.tmps,params:=ps.toArray,assign:=b49,body:=bd,defers:=w.heap.size}:=⟨_,U⟩
 have Es:Sat O (pt (w.alloc (.deferred (aN []))).heap.size (.loop rec)::pt w.heap.size (.deferred (aN []))::H) ((w.alloc (.deferred (aN []))).alloc (.loop rec)):=Sat.mR (Sat.mR hs _) _
 rw[World.size_alloc]at Es
 have eg:a.eval g=.func (.func f) #[] cap.toArray:=by grind [bU]
 have hen:=run_enterLoop_outer (P:=P) (w:=w) fn a.tmps ps.toArray b49 bd
 rw[<-Ie]at hen
 refine⟨w.heap.size+1,[{target:=.collected w.heap.size,args:=#[]}],(w.alloc (.deferred (aN []))).alloc (.loop rec),⟨.fn (.func f) cap.toArray,#[.func (.yield (w.heap.size+1)) #[] #[]]⟩,(w.alloc (.deferred (aN []))).alloc (.loop rec),f,(.func (.yield (w.heap.size+1)) #[] #[]::cap).toArray,(w.alloc (.deferred (aN []))).alloc (.loop rec),?_,?_,?_,?_,?_,?_⟩
 ·rw[show(Fw b.roundOf).round=aO from nA.ro];exact hen
 ·grind [resolve,Deferred.ofValue,db,Act.eval]
 ·grind
 ·have h9:=uD.out (.func (.yield (w.heap.size+1)) #[] #[]::cap).toArray ((w.alloc (.deferred (aN []))).alloc (.loop rec))
  grind [invoke]
 ·grind
 ·have hE1:bS (pt (w.heap.size+1) (.loop rec)::pt w.heap.size (.deferred (aN []))::H) ((A++(pt (w.heap.size+1) (.loop rec)::I []))++(pt w.heap.size (.deferred (aN []))::F)):=by
   refine(bS.cons _ (bS.cons _ hA)).trans (ew ?_);refine List.Perm.trans (fM _ _ _) ?_;rw[cB,cB];refine List.Perm.trans (iJ _ (gF.symm)) ?_;refine List.Perm.trans (gF.symm) ?_;refine List.Perm.append_left A ?_;rw[bh];refine List.Perm.trans (fM _ _ _) (iJ _ ?_);exact gF.symm
  obtain⟨β',hβ,Ao,sT⟩:=mo (Es.dE hE1);have hT:=hit (w.heap.size+1) (λpre=>pt (w.heap.size+1) (.loop rec)::I pre) (pt (w.heap.size+1) (.loop {rec with state:=.done,pending:=aN .ret})::J) (λpre x hx=>by
   refine YT.of (l:=w.heap.size+1) (ps:=ps) (r:=rec) (n:=N) (vs:=vs) ⟨_,bS.refl _⟩ (by rw[Ie]) (hl x) hp ⟨by rw[Ie];exact he.1,U,by rw[Ie];exact he.2.2⟩ ?_
   intro b' β' hfn mM BS
   have:=body b' β' (w.heap.size+1) rec pre x hx mM BS (by rw[Ie])
   grind)
  have hc:=hT β' _ (G.mono hβ hG) Ao;refine Ff b.roundOf (hc.mono ?_);rintro e w3 ⟨B,hB,Fi⟩;cases e with
  |panicked ch=>exact hB.elim
  |outgrown=>exact hB.elim
  |returned v=>
   have oP:=sT B w3 Fi;have MO:∀(A:Y bG) (o:Obj) (Z:Y bG),((A++pt (w.heap.size+1) o::Z)++pt w.heap.size (.deferred (aN []))::F).Perm (pt (w.heap.size+1) o::pt w.heap.size (.deferred (aN []))::(A++Z++F)):=by
    intro A o Z;refine List.Perm.trans (List.Perm.append_right _ gF) ?_;rw[bh];exact iJ _ gF
   rcases hB with⟨ys,A2,AD,hB⟩|⟨A3,h3,hB⟩
   ·subst hB;have h5:=oP.dE (ew (MO _ _ _));refine⟨aO,_,by have:=run_endLoop (P:=P) (fF h5) (by rw[Ie];simp);rw[Ie]at this;exact this,?_⟩;have h6:=(tO h5 (.loop {rec with state:=.exhausted})).dE (bS.drop _ _);rw[Ie]at h6;exact done w.heap.size ys A2 AD hb _ _ ⟨he.1,by show _::a.defers=_;rw[he.2.1],he.2.2⟩ h6
   ·subst hB;have h5:=oP.dE (ew (MO _ _ _));refine⟨aN .ret,_,by have:=run_endLoop (P:=P) (fF h5) dW;rw[Ie]at this;exact this,?_⟩;have h6:=(tO h5 (.loop {({rec with state:=.done,pending:=aN .ret}:Loop)with state:=.exhausted})).dE (bS.drop _ _);rw[Ie]at h6;exact wpIn_ret (stop w.heap.size A3 h3 hb _ _ ⟨he.1,by show _::a.defers=_;rw[he.2.1],he.2.2⟩ h6)
theorem L6{G:dA}(hG:G.on O)(nA:nL b f0)[uD:CF P f]{g:aY}{k:Y Item}{α:Type}{cC:α->Y aR}{xs:Y α}(hit:IT P G f cap A cC xs)(hg:fI vs g=aN (.func (.func f) #[] cap.toArray))(I:Y α->Y bG)(J:Y bG)(hA:bS H (A++I []++F))(hl:∀x,ps.length=(cC x).length)(hp:∀p∈ps,bM p N=aP)(body:∀(b':bc) (β':de) (l:ab) (r:Loop) (pre:Y α) (x:α) (post:Y α),xs=pre++x::post->b'.roundOf=aN l->G.on β'->r.state=.ready->
  X P b' β' aO (.it [.code b49,.beginRound,.code bd]) ⟨N,AB ps (cC x) vs,[]⟩ (pt l (.loop r)::I pre) (dC (YQ (pt l (.loop {r with state:=.ready,pending:=aO})::I (pre++[x])) (pt l (.loop {r with state:=.done,pending:=aN .ret})::J))))(done:∀D,X P b O aO (.it k) ⟨N,vs,⟨.collected D,#[]⟩::ds⟩ (pt D (.deferred (aN []))::(A++I xs++F)) R)(stop:∀D,XR P b O ⟨N,vs,⟨.collected D,#[]⟩::ds⟩ (pt D (.deferred (aN []))::(A++J++F)) R):
 X P b O aO (.it (.code (.rangeFunc g ps.toArray b49 bd)::k)) ⟨N,vs,ds⟩ H R:=by
 exact E0 (pok:=λpre x=>∃post,xs=pre++x::post) (fok:=λys A2=>ys=xs/\A2=A) (sok:=λA3=>A3=A) hG nA (λl I J hY=>(hit l I J λpre x post hx=>hY pre x ⟨post,hx⟩).rm λv B h=>h.imp (λh=>⟨_,_,⟨U,U⟩,h⟩) λh=>⟨_,U,h⟩) hg I J hA hl hp
  (λb' β' l r pre x ⟨post,hx⟩=>body b' β' l r pre x post hx) (λD ys A2 h=>by obtain⟨rfl,rfl⟩:=h;exact done D) λD A3 h=>by subst h;exact stop D
end
def dZ(L:Y bG):bG:=⟨λr o=>pq L r o,λhr ho h=>kx _ hr ho h⟩
theorem iE(F:Y bG):bS (L++F) (dZ L::F):=by
 intro r o h;obtain⟨o1,o2,hd,h1,h2,ha,hb⟩:=kQ.1 h;exact⟨o1,o2,hd,h1,h2,ha,hb⟩
theorem iR(F:Y bG):bS (dZ L::F) (L++F):=by
 intro r o ⟨o1,o2,hd,h1,h2,ha,hb⟩;exact kQ.2 ⟨o1,o2,hd,h1,h2,ha,hb⟩
theorem iS:bS L [dZ L]:=by have:=iE L [];grind
theorem gm:bS [dZ L] L:=by have:=iR L [];grind
theorem nI(A:Y bG){B C:Y bG}(h:bS B C):bS (A++B) (A++C):=(v8 A B).trans ((je h A).trans (v8 C A))
section
variable{P:aT}
theorem YT.eY{A':Y bG}{R R':aZ->Y bG->Prop}(h:YT P G l args A R)(hA:bS A' A)(hR:∀e B,R e B->∃B',R' e B'/\bS B B'):YT P G l args A' R':=by
 intro O w hG hs;obtain⟨f,tmps,b49,bd,h1,h2⟩:=h O w hG (hs.dE hA);exact⟨f,tmps,b49,bd,h1,λro=>(h2 ro).mono λe w' ⟨B,hB,Fi⟩=>let⟨B',h3,h4⟩:=hR e B hB;⟨B',h3,Fi.dE h4⟩⟩
theorem IT.mk{f:FuncId}{α:Type}{cC:α->Y aR}{xs:Y α}(h:∀(l:ab) (I:Y α->bG) (J:bG),(∀pre x post,xs=pre++x::post->YT P G l (cC x).toArray [I pre] (dC (YQ [I (pre++[x])] [J])))->
  TR P G f (.func (.yield l) #[] #[]::cap).toArray (A++[I []]) (dC λ_ B=>B=A++[I xs]\/B=A++[J])):IT P G f cap A cC xs:=by
 intro l I J hY
 refine(h l (λp=>dZ (I p)) (dZ J) λpre x post hx=>(hY pre x post hx).eY (gm _) ?_).eY (nI A (iS _)) ?_
 ·exact bp4
 ·rintro e B hB;cases e with
  |panicked ch=>exact hB.elim
  |outgrown=>exact hB.elim
  |returned v=>
   rcases hB with rfl|rfl
   ·exact⟨_,.inl U,nI A (gm _)⟩
   ·exact⟨_,.inr U,nI A (gm _)⟩
end
section
variable{P:aT}{vs:Y (ab×aR)}{rest:Y aW}
theorem tM{k:Y Item}{G:dA}(hG:G.on O){xs:Y aY}(hT:YT P G l us.toArray A (dC (YQ B1 B2)))(hw:bO ops vs ⟨aN d,.call ⟨.value (.tmp t),xs.toArray,sU⟩,ty,pos,af,g⟩=aN aP)(hn:bM d N=aP)(ht:lk vs t=aN (.func (.yield l) #[] #[]))(hx:oO vs xs=aN us)[hA:ES H A F](h1:X P b O (aN (ops,rest)) (.it k) ⟨N,(d,.bool aP)::vs,ds⟩ (B1++F) R)(h2:X P b O (aN (ops,rest)) (.it k) ⟨N,(d,.bool aQ)::vs,ds⟩ (B2++F) R):
 X P b O (aN (ops,⟨aN d,.call ⟨.value (.tmp t),xs.toArray,sU⟩,ty,pos,af,g⟩::rest)) (.it k) ⟨N,vs,ds⟩ H R:=by
 refine SS hG hT hw hn ht hx hA.out ?_
 rintro v B (⟨rfl,rfl⟩|⟨rfl,rfl⟩)
 ·exact h1
 ·exact h2
theorem qO{k:Y Item}(mM:b.roundOf=aN l)[hE:FP H (pt l (.loop r)) F](hr:r.state=.ready)(h:X P b O aO (.it k) E (pt l (.loop {r with state:=.busy})::F) R):X P b O aO (.it (.beginRound::k)) E H R:=bB4 mM hE.out hr h
theorem lT(mM:b.roundOf=aN l){F':Y bG}[hE:FP H (pt l (.loop {r with state:=.busy})) F][hs:ES F B1 F']:X P b O aO (.it []) E H (dC (YQ (pt l (.loop {r with state:=.ready,pending:=aO})::B1) B2)):=by
 refine bm0 mM hE.out ⟨_,.inl ⟨U,U⟩,bS.cons _ (hs.out.trans (ia _ _))⟩
theorem aw8{k:Y Item}(mM:b.roundOf=aN l){F':Y bG}[hE:FP H (pt l (.loop {r with state:=.busy})) F][hs:ES F B2 F']:X P b O aO (.it (.code .ret::k)) E H (dC (YQ B1 (pt l (.loop {r with state:=.done,pending:=aN .ret})::B2))):=by
 refine bk8 mM hE.out ⟨_,.inr ⟨U,U⟩,bS.cons _ (hs.out.trans (ia _ _))⟩
theorem XR.no(h:bS H (pu False::F)):XR P b O E H R:=λ_ _ _ _ hs=>(lR (hs.dE h)).1.elim
theorem rL{G:dA}(hG:G.on O)(nA:nL b f0)[uD:CF P f]{g:aY}{k:Y Item}{α:Type}{cC:α->Y aR}{xs:Y α}{F1:Y bG}(hit:IT P G f cap A cC xs)(hg:fI vs g=aN (.func (.func f) #[] cap.toArray))(I:Y α->Y bG)(I0:Y bG)(h0:I0=I [])[hA1:ES H A F1][hA2:ES F1 I0 F](hl:∀x,ps.length=(cC x).length)(hp:∀p∈ps,bM p N=aP)(body:∀(b':bc) (β':de) (l:ab) (r:Loop) (pre:Y α) (x:α) (post:Y α),xs=pre++x::post->b'.roundOf=aN l->G.on β'->r.state=.ready->
  X P b' β' aO (.it [.code b49,.beginRound,.code bd]) ⟨N,AB ps (cC x) vs,[]⟩ (pt l (.loop r)::I pre) (dC (YQ (pt l (.loop {r with state:=.ready,pending:=aO})::I (pre++[x])) (pt l (.loop {r with state:=.done,pending:=aN .ret})::[pu False]))))(done:∀D,X P b O aO (.it k) ⟨N,vs,⟨.collected D,#[]⟩::ds⟩ (pt D (.deferred (aN []))::(A++I xs++F)) R):
 X P b O aO (.it (.code (.rangeFunc g ps.toArray b49 bd)::k)) ⟨N,vs,ds⟩ H R:=by
 subst h0
 refine L6 hG nA hit hg I [pu False] (F:=F) bp5 hl hp body done λD=>?_
 refine XR.no (F:=pt D (.deferred (aN []))::(A++F)) ?_
 refine(bS.cons _ ?_).trans (eo _ _ _)
 refine ew ?_
 simp_all
end
section
variable{P:aT}{vs:Y (ab×aR)}
theorem z7{k:Y Item}(nA:nL b f)[hf:FR P f rs]{l:Y aR}[hE:FP H (pt D (.deferred (aN []))) F](hl:kK P ⟨N,vs,[⟨.collected D,#[]⟩]⟩ F rs l)(h:∃C,R (.returned (mv l)) C/\bS F C):X P b O aO (.it (.code .ret::k)) ⟨N,vs,[⟨.collected D,#[]⟩]⟩ H R:=bn7 nA hE.out hl h
theorem aw5(nA:nL b f)[hf:FR P f rs]{l:Y aR}[hE:FP H (pt D (.deferred (aN []))) F](hl:kK P ⟨N,vs,[⟨.collected D,#[]⟩]⟩ F rs l)(h:∃C,R (.returned (mv l)) C/\bS F C):X P b O aO (.it []) ⟨N,vs,[⟨.collected D,#[]⟩]⟩ H R:=Yi nA hE.out hl h
end
end
end Go.Sl
