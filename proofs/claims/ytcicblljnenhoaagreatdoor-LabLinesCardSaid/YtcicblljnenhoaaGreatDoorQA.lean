/- A part of the proof of LabLines. -/
import Derived.Below
import Derived.Calls
import Derived.ChangeMaps5
import Derived.ChangeSame
import Derived.ChangeVars
import Derived.Conc.MuLone
import Derived.Defers
import Derived.Ground.NamesProg
import Derived.Ground.SlgmProg
import Derived.Ground.SlsfProg
import Derived.Handed
import Derived.IntWalk
import Derived.JoinedOf
import Derived.KernelRfl
import Derived.LaidEql
import Derived.LaidHandle
import Derived.LaidLaws
import Derived.LaidMore
import Derived.LaidOnce
import Derived.LaidSub
import Derived.Laws.AppendOwn
import Derived.Laws.Build
import Derived.Laws.BytesArg
import Derived.Laws.Cells
import Derived.Laws.CopyRow
import Derived.Laws.Entries
import Derived.Laws.Externs
import Derived.Laws.MakeOwn
import Derived.Laws.OwnMore
import Derived.Laws.RangeString
import Derived.Laws.Slices
import Derived.Laws.StructEq
import Derived.Lib.AppendStr
import Derived.Lib.AtoiErrMem
import Derived.Lib.Builder
import Derived.Lib.BytesEntry
import Derived.Lib.ConvBytes
import Derived.Lib.IfaceEq
import Derived.Lib.ItoaLen
import Derived.Lib.ItoaNum
import Derived.Lib.LaidTab
import Derived.Lib.Space
import Derived.Lib.UnsafeStr
import Derived.Maps.RangeRun
import Derived.OpenShut
import Derived.OrdersHeld
import Derived.OrdersIn
import Derived.RangeFuncCalls
import Derived.RangeFuncIn
import Derived.RangeFuncRecord
import Derived.Recover
import Derived.RowKit
import Derived.RowKitTokens
import Derived.Shelf.SlGeneric
import Derived.Shelf.SlSortCmp.NoneTotal
import Derived.Shelf.SortM.Plain
import Derived.Shelf.SortM.SortNone
import Derived.Shelf.Strconv.Atoi
import Derived.Shelf.Strconv.Clone
import Derived.Shelf.Strconv.Itoa2
import Derived.Shelf.Strconv.Itoa3
import Derived.Shelf.Strings.SplitShaped
import Derived.Sort.OwnSorted
import Derived.Stop.Asserts
import Derived.Stop.Joined
import Derived.Tactics
import Derived.TacticsIn
import Derived.WalkKit
import Derived.WalkSmall
open Array renaming getElem?_eq_some_iff->dT,getElem?_modify->eF,getElem?_toList->cZ
open Bool renaming false_and->ab6,false_eq_true->bY
open Go.Instr renaming checkKey->gv,loadAt->iO,sliceBounds->gl,sureAddr->eM
open Int renaming toNat_natCast->fG
open Go.IntKind renaming bits->gy,i64->dV,signed->iW,u32->dK,u64->cN,u8->cC,wrap->ic
open Go.Lib renaming countByte->bP,indexByte->cE
open List renaming Perm.cons->fS,Perm.swap->eu,all_eq_true->ef,append_assoc->bT,append_nil->ah,cons_append->ae,drop_eq_getElem_cons->aP,drop_of_length_le->bc,ext_getElem?->dP,findIdx?_eq_some_iff_getElem->bA,flatMap_cons->eQ,foldl_cons->cY,getElem?_eq_getElem->aV,getElem?_map->dO,getElem_map->ft,length->dq,length_append->aG,length_cons->ax,length_map->aA,length_nil->aR,length_pos_iff->fy,length_set->gB,length_take->cB,map_append->cq,map_congr_left->bQ,map_cons->aK,map_map->cz,mem_append->cM,mem_cons->bK,mem_map->bj,mem_singleton->bD,nil_append->ai,perm_append_comm->cG,perm_middle->ee,replicate->bI,size_toArray->dC,sum_cons->eC,take_add_one->aY,take_append_drop->cP,take_length->bh,take_of_length_le->aD,take_succ_eq_append_getElem->dd
open Nat renaming add_mul->fP,beq->dB,blt->aH,eq_of_beq_eq_true->eG,le_add_right->aT,le_of_ble_eq_true->aI,le_refl->ar,le_succ->gk,le_trans->aj,mul_le_mul_right->cX,zero_add->aQ,zero_le->al
open Go.Op renaming equalIn->fC
open Option renaming getD_some->bX,map_eq_some_iff->bk,map_some->bH,some.injEq->fF
open Go.Result renaming andThen->ig,andThen_ok->aC
open Go.Sem renaming run->fo,run_bind->aU,run_pure->bN
open UInt32 renaming ofNat->gz
open UInt8 renaming ofNat->cu,toNat_inj->aa2
open Go.Value renaming bool->jZ
open Go.World renaming cell?->gj
set_option linter.all false
set_option maxHeartbeats 4000000
theorem U.{u}{α:Sort u}{a:α}:a=a:=rfl
section
variable{p:Prop}
theorem mz0(h:p:=by
 rintro v B (⟨he,rfl,rfl⟩|⟨he,p,rfl,rfl⟩)
 ·refine xD ?_;exact l8 (l:=[.nilIface]) (us:=[au S]) (cap:=[]) hb hG (gi GG S D x) (.tmps U) ⟨_,qJ.ok' he,ay⟩
 ·refine xD ?_;exact l8 (l:=[.iface 178 (au p)]) (us:=[au S]) (cap:=[]) hb hG (gi GG S D x) (.tmps U) ⟨_,qJ.err he,ay⟩):p:=h
theorem mz1(h:p:=by
 have hp:(pre++[S[i].1]++(S.eraseIdx i).map (·.1)).Perm (M.map (·.1)):=by
  grind [oD]
 refine xS ?_;refine zO U U U (xS ?_);refine rM hG (hY pre S[i].1 ⟨_,hp⟩) U U U U ?_ ?_
 ·refine xD ?_;exact X.W (ih ⟨(pre++[S[i].1],S.eraseIdx i,some S[i]),hp⟩ bE)
 ·refine xD ?_;refine zL r ?_;exact X.ret hb (.tmps U) ⟨_,.inr U,ay⟩):p:=h
theorem mz2(h:p:=by
 refine wg s.place Fm U U U U ?_;rw[kV];refine xS ?_;refine X.W (pG ⟨(j+1,gJ V s.place (.int .i64 (dV.wrap (cn+1)))),by dsimp only;omega,sT hVn _ _,qa hVi ⟨_,U⟩,λx=>by dsimp only;rw[yM,hV x,wx x,or_assoc]⟩ gm)):p:=h
theorem mz4(h:p:=by
 exact bO hb (.gX U U (.tmp U .nil)) ⟨U,U⟩):p:=h
theorem mz5(h:p:=by
 refine xS ?_;exact bO hb (.gX U U (.tmp U .nil)) ⟨U,U⟩):p:=h
theorem Ka(h:p:=by
 refine cg U λb β hb hG=>?_;refine xP ?_;intro p;exact bO hb (.tmps U) ⟨p,U,U⟩):p:=h
theorem Vu(h:p:=by
 have low:=low av;refine xT 125 ?_ ?_<;>intro h5
 ·have h5:97<=(Al ch).toNat:=by grind
  refine xB ?_ ?_<;>intro h6
  ·have h6:(Al ch).toNat<=122:=by grind
   have hdv:qN ch=(Al ch).toNat - 87:=bE;refine xS ?_;exact X.less (fin ⟨(),by omega⟩) (Sub.cons U (Sub.cons U (Sub.cons U (Sub.cons U (Sub.cons U (Sub.cons U (Sub.cons (eN U (by rw[hdv,show((Al ch).toNat:Int) - 97=(((Al ch).toNat - 97:Nat):Int)from by omega,wrap_u8 _ av,show(((Al ch).toNat - 97:Nat):Int)+10=(((Al ch).toNat - 87:Nat):Int)from by omega,wrap_u8 _ av])) (Sub.of U)))))))) ay
  ·have h6:¬(Al ch).toNat<=122:=by grind
   refine xS ?_;refine qQ U U U (xS ?_);exact bad bE U U
 ·have h5:¬97<=(Al ch).toNat:=by grind
  refine xS ?_;refine qQ U U U (xS ?_);exact bad bE U U):p:=h
theorem mz9(h:p:=by
 exact X.less (ih ⟨(f,c+1),by dsimp only;omega,by dsimp only at hfc ⊢;omega,hE⟩ gm) (s2_ U (eN U nH)) (aN.nil _)):p:=h
theorem Lx(h:p:=by
 intro p hp;refine xS ?_;refine du (j:=0) U U U U U av (xS ?_);exact hp):p:=h
theorem bv4(h:p:=by
 refine(aN.cons _ (aN.cons _ hA)).trans (di ?_);refine List.Perm.trans (eu _ _ _) ?_;rw[bT,bT];refine List.Perm.trans (fS _ (ee.symm)) ?_;refine List.Perm.trans (ee.symm) ?_;refine List.Perm.append_left A ?_;rw[ae];refine List.Perm.trans (eu _ _ _) (fS _ ?_);exact ee.symm):p:=h
theorem bx5(h:p:=by
 refine xS ?_;exact X.less (ih ⟨(f,c+1),by dsimp only;omega,by dsimp only at hfc ⊢;omega,hE⟩ gm) (s2_ U (eN U nH)) (aN.nil _)):p:=h
theorem aj0(h:p:=by
 refine X.cd (dY hI _) ?_;refine fi oZ C c U ⟨aa,ac,KB,OB,ks,oz⟩ ?_;exact bO hb (.tmps U) ⟨by grind [lx],U⟩):p:=h
theorem bw6(h:p:=by
 refine dA U U U U U ?_ ?_
 ·refine Gf U U U U U (xS ?_);refine wg s.place Fm U U U U ?_;rw[kV];refine xS ?_;refine X.W (pG ⟨(j+1,gJ V s.place (.int .i64 (dV.wrap (cn+1)))),by dsimp only;omega,sT hVn _ _,qa hVi ⟨_,U⟩,λx=>by dsimp only;rw[yM,hV x,wx x,or_assoc]⟩ gm)
 ·refine xS ?_;refine Gf U U U U U (xS ?_);refine wg s.place Fm U U U U ?_;rw[kV];refine xS ?_;refine X.W (pG ⟨(j+1,gJ V s.place (.int .i64 (dV.wrap (cn+1)))),by dsimp only;omega,sT hVn _ _,qa hVi ⟨_,U⟩,λx=>by dsimp only;rw[yM,hV x,wx x,or_assoc]⟩ gm)):p:=h
theorem bw9(h:p:=by
 rintro v B ⟨rfl,rfl⟩;refine xD ?_;refine xB ?_ ?_<;>intro h2
 ·rw[if_pos av]at hE;refine xS ?_;exact bO hb (.tmps U) ⟨by rw[hE];rfl,U⟩
 ·rw[if_neg bE]at hE;refine xS ?_;exact X.W (ih ⟨i+1,by omega,hE⟩ bE)):p:=h
theorem bj7(h:p:=by
 refine X.cd (dY hp _) ?_;refine fi uh M m U ⟨q,pa,pc,ss,sa,sc,fa,fc,fx⟩ ?_;refine dU hG hb (y4 GG M L m nm right a9 _ c9 U Ml h9 hm av av av) U U U iv (λe he=>⟨e,by rw[he],U,U⟩) ?_;rintro m1 h1 v B ⟨rfl,rfl⟩;rw[h1];refine xD ?_;exact bO hb (.tmps U) ⟨_,U,U,U⟩):p:=h
theorem ae2(h:p:=by
 refine xS ?_;refine Gf U U U U U (xS ?_);refine wg s.place Fm U U U U ?_;rw[kV];refine xS ?_;refine X.W (pG ⟨(j+1,gJ V s.place (.int .i64 (dV.wrap (cn+1)))),by dsimp only;omega,sT hVn _ _,qa hVi ⟨_,U⟩,λx=>by dsimp only;rw[yM,hV x,wx x,or_assoc]⟩ gm)):p:=h
theorem Rv(h:p:=by
 refine du (j:=j+1) U U U U av av (xS ?_);refine nT (bo:=en) (l:=q) (j+1) q[j] U U U U (λ_=>rfl) (aQ _) jz U U (xS ?_);refine du (j:=j) U U U U av av (xS ?_);refine nT (bo:=en) (l:=q.set (j+1) q[j]) (j) q[j+1] U U U U (λ_=>rfl) (aQ _) (by simpa using mD) U U (xS ?_);refine X.less (pG ⟨(j,oU q (j+1) j),by dsimp only;omega,by rw[vA];exact g2,?_⟩ gm) (YX U U U U U (eN U nH)) ?_
 ·rw[<-g3];exact(if_pos (show a0<j+1/\qM lt q (j+1) j=true from⟨hj,h6⟩)).symm
 ·dsimp only;rw[uM jz mD];exact ay):p:=h
theorem bj9(h:p:=by
 refine xS ?_;refine bO hb (.tmps U) ⟨by rw[hE];rfl,U⟩):p:=h
theorem aW5(h:p:=by
 have fw:i=n:=bE;subst fw;rw[bc av]at hE;refine xS ?_;refine bO hb (.tmps U) ⟨by rw[hE];rfl,U⟩):p:=h
theorem bn7(h:p:=by
 rw[o7,if_neg rA]at ih;refine xE (jf GG b3 acc 37 av) ?_;refine kz (l:=d16) (j:=x.toNat / 16) U U U U (vr .u8 x.toNat 4 de) ap5 ?_;rw[Cz];refine xE (jf GG b3 (acc++[37]) (lV (x.toNat / 16)) bB) ?_;refine kz (l:=d16) (j:=x.toNat%16) U U U U (Yt x) ap5 ?_;rw[Cz];refine xE (jf GG b3 (acc++[37]++[lV (x.toNat / 16)]) (lV (x.toNat%16)) bB) ?_;rw[show acc++[37]++[lV (x.toNat / 16)]++[lV (x.toNat%16)]=acc++[37,lV (x.toNat / 16),lV (x.toNat%16)]from by simp];exact X.W ih):p:=h
theorem bj6(h:p:=by
 refine xS ?_;exact bO hb (.tmps U) ⟨by rw[hE];rfl,U⟩):p:=h
theorem bj8(h:p:=by
 refine xB ?_ ?_<;>intro h5
 ·have h6:p ((i+j) / 2)=true:=by rw[tK];rw[Cq lt jz mD,W1];exact h5
  rw[bj4 h4 h6]at g5;refine xS ?_;refine X.less (ih ⟨(f3,(i+j) / 2+1,j),by dsimp only;omega,by dsimp only;omega,g3,by dsimp only;omega,g5⟩ gm) (Sub.cons U (Sub.cons U (Sub.cons U (Sub.cons U (Sub.cons U (Sub.cons (eN U nH) (Sub.of U))))))) ay
 ·have h6:¬p ((i+j) / 2)=true:=by rw[tK];rw[Cq lt jz mD,W1];simpa using h5
  rw[bj5 h4 h6]at g5;refine xS ?_;exact X.W (ih ⟨(f3,i,(i+j) / 2),by dsimp only;omega,g2,by dsimp only;omega,by dsimp only;omega,g5⟩ gm)):p:=h
theorem XH(h:p:=by
 refine du (j:=k) U U U U av av (xS ?_);refine nT (bo:=en) (l:=q) (k) q[k - 1] U U U U (λ_=>rfl) (aQ _) jz U U (xS ?_);refine du (j:=k - 1) U U U U av av (xS ?_);refine nT (bo:=en) (l:=q.set (k) q[k - 1]) (k - 1) q[k] U U U U (λ_=>rfl) (aQ _) (by simpa using mD) U U (xS ?_);refine X.less (ih ⟨(cn,k - 1,oU q k (k - 1)),by dsimp only;omega,by dsimp only;omega,by rw[vA];exact g2,g3⟩ gm) (s7_ U U U U U U (eN U bB)) ?_;dsimp only;rw[uM jz mD];exact ay):p:=h
theorem E3(h:p:=by
 rintro _ _ ⟨rfl,rfl⟩;refine xB ?_ ?_<;>intro h1
 ·refine xS ?_;exact bO hb (.tmps U) ⟨by grind [lx,aX,mY],U⟩
 ·refine xB ?_ ?_<;>intro h2
  ·refine xS ?_
   refine bO hb (.tmps U) ⟨?_,U⟩
   grind [lx,aX,mY]
  ·refine xS ?_
   refine bO hb (.tmps U) ⟨?_,U⟩
   grind [lx,aX,mY]):p:=h
theorem bw1(h:p:=by
 refine xS ?_;refine dA U U U U U ?_ ?_
 ·refine X.add U U U U av av (xS ?_);refine CQ r mJ U U U U λjj st Fm=>xS ?_;refine wg r Fm U U U U ?_;rw[kV];refine xS ?_;exact X.W (dW ())
 ·refine CQ r mJ U U U U λjj st Fm=>xS ?_;refine dA U U U U U ?_ ?_
  ·refine X.add U U U U av av (xS ?_);refine wg r Fm U U U U ?_;rw[kV];refine xS ?_;exact X.W (dW ())
  ·refine xS ?_;refine wg r Fm U U U U ?_;rw[kV];refine xS ?_;exact X.W (dW ())):p:=h
theorem au2(h:p:=by
 refine du (j:=a0+i) U U U U av av (xS ?_);refine nT (bo:=en) (l:=m) (a0+i) m[b0+i] U U U U (λ_=>rfl) (aQ _) mD U U (xS ?_);refine du (j:=b0+i) U U U U av av (xS ?_);refine nT (bo:=en) (l:=m.set (a0+i) m[b0+i]) (b0+i) m[a0+i] U U U U (λ_=>rfl) (aQ _) (by simpa using jz) U U (xS ?_);refine X.less (ih ⟨(k,i+1,oU m (a0+i) (b0+i)),by dsimp only;omega,by rw[vA];exact h2,h3⟩ gm) (Y7 U U U U (eN U nH)) ?_;dsimp only;rw[uM mD jz];exact ay):p:=h
theorem bk4(h:p:=by
 refine du (j:=k) U U U U av av (xS ?_);refine nT (bo:=en) (l:=q) (k) q[k+1] U U U U (λ_=>rfl) (aQ _) jz U U (xS ?_);refine du (j:=k+1) U U U U av av (xS ?_);refine nT (bo:=en) (l:=q.set (k) q[k+1]) (k+1) q[k] U U U U (λ_=>rfl) (aQ _) (by simpa using mD) U U (xS ?_);refine X.less (ih ⟨(cn,k+1,oU q k (k+1)),by dsimp only;omega,by rw[vA];exact g2,g3⟩ gm) (s7_ U U U U U U (eN U nH)) ?_;dsimp only;rw[uM jz mD];exact ay):p:=h
theorem bk2(h:p:=by
 subst e0;refine xS ?_;exact bO hb (.gX U U (.tmp U .nil)) ⟨U,U⟩):p:=h
theorem by4(h:p:=by
 exact Ul):p:=h
theorem Rs(h:p:=by
 ·intro m hm;simp only[jB.texts,Dm.texts,bK,List.not_mem_nil,or_false,false_or]at hm;rcases hm with rfl|rfl
  ·have:=su n0;omega
  ·have:=su n1;omega
 all_goals grind):p:=h
theorem bk3(h:p:=by
 rw[hT]at hE;dsimp only at hE;refine xS ?_;exact X.less (ih ⟨(f,c+1),by dsimp only;omega,by dsimp only at hfc ⊢;omega,hE⟩ gm) (s2_ U (eN U nH)) (aN.nil _)):p:=h
theorem bw2(h:p:=by
 intro m hm;simp only[jB.texts,Dm.texts,bK,List.not_mem_nil,or_false,false_or]at hm;rcases hm with rfl
 ·have:=su n0;omega):p:=h
theorem bu3(h:p:=by
 subst hS;refine xS ?_;refine zL r ?_;exact X.fin hb (.tmps U) ⟨_,.inl ⟨pre,by grind,U⟩,ay⟩):p:=h
theorem bE7(h:p:=by
 refine Cf b7 1 [cu s.kind.toNat] U U U ?_;refine iE VG U λh9=>?_;generalize hv9:eX [s.eB]=w9 at*;refine iw (zs:=[cu s.kind.toNat]) U U U U U bB λZ0 c30=>xS ?_;exact X.W (fin (Z0,c30))):p:=h
theorem bm0(h:p:=by
 refine X.ret hb (.tmps U) ⟨_,⟨by rw[e0];rfl,by rw[e0]⟩,?_⟩;exact aN.trans ay (gH _)):p:=h
theorem bx9(h:p:=by
 refine aM 64 false U (by simp[hz]) (xS ?_);refine X.cd (dY hp _) ?_;refine fi uh M m U ⟨q,pa,pc,ss,sa,sc,fa,fc,fx⟩ ?_;refine wc eH.data ⟨1,nm,[],[],0⟩ U ?_;refine dU hG hb (D' GG M m (⟨1,nm,[],[],0⟩,none,0) (aj hm.now av) (aj hm.steps av) bE) U U U iv (λe he=>⟨e,by rw[he],U,U⟩) ?_;rintro m1 h1 v B ⟨rfl,rfl⟩;rw[h1];refine xD ?_;exact bO hb (.tmps U) ⟨_,U,U,U⟩):p:=h
theorem au3(h:p:=by
 have h6:¬p ((i+j) / 2)=true:=by rw[tK];rw[Cq lt jz mD,W1];simpa using h5
 rw[bj5 h4 h6]at g5;refine xS ?_;exact X.W (ih ⟨(f3,i,(i+j) / 2),by dsimp only;omega,g2,by dsimp only;omega,by dsimp only;omega,g5⟩ gm)):p:=h
theorem bn9(h:p:=by
 refine xS ?_;refine X.st U U U U U jD iA ?_;refine X.go 1 U U ?_;refine X.sw ?_;refine mr U U U U ?_;refine X.go 1 U U ?_;refine X.sw ?_;refine HO U U ?_;exact X.W (fin ⟨(b4,_,XX),hR⟩)):p:=h
theorem aW3(h:p:=by
 ·intro m hm;simp only[jB.texts,Dm.texts,bK,List.not_mem_nil,or_false,false_or]at hm;rcases hm with rfl
  ·have:=su n0;omega
 all_goals grind):p:=h
theorem bu4(h:p:=by
 refine xS ?_;refine wg r Fm U U U U ?_;rw[kV];refine xS ?_;exact X.W (dW ())):p:=h
theorem bo1(h:p:=by
 rintro e B hB;cases e with
 |panicked ch=>exact hB.elim
 |outgrown=>exact hB.elim
 |returned v=>
  rcases hB with⟨rfl,rfl⟩|⟨rfl,rfl⟩
  ·exact⟨_,.inl ⟨U,U⟩,gH _⟩
  ·exact⟨_,.inr ⟨U,U⟩,gH _⟩):p:=h
theorem bE0(h:p:=by
 refine xS ?_;refine X.ret hb (.tmps U) ⟨_,⟨by rw[e0];rfl,by rw[e0]⟩,?_⟩;exact aN.trans ay (gH _)):p:=h
theorem bo0(h:p:=by
 intro p hp;refine xS ?_;refine qS (zv:=.int .i64 0) r mJ U U U U (λw _=>wO.run (P:=ab) (t:=3) inferInstance w) ?_;rw[py];refine xS ?_;refine aM 12 true U bB (xS ?_);refine aM 16 false U (by simp[hki]) (xS ?_);refine rJ (zv:=.map none) r.key U U U U ?_;rw[hg,bX];refine xS ?_;refine Mv U U U (xS ?_);refine aM 27 false U bB (xS ?_);exact hp):p:=h
theorem aZ4(h:p:=by
 intro p hp;refine xS ?_;refine qS (zv:=.int .i64 0) r mJ U U U U (λw _=>wO.run (P:=ab) (t:=3) inferInstance w) ?_;rw[py];refine xS ?_;refine aM 12 true U bB (xS ?_);refine aM 16 false U (by simp[hki]) (xS ?_);refine rJ (zv:=.map none) r.key U U U U ?_;rw[hg,Option.getD_none];refine xS ?_;refine aa5 U U U (xS ?_);refine aM 27 false U nH (xS ?_);exact hp):p:=h
theorem bk6(h:p:=by
 subst fw;rw[bc av]at hE;refine xS ?_;exact bO hb (.tmps U) ⟨by rw[hE];rfl,U⟩):p:=h
theorem bx3(h:p:=by
 ·dsimp only;rw[j6];exact(Y7 U U U U (eN U pH))
 ·dsimp only;rw[j6];exact ay):p:=h
theorem bh4(h:p:=by
 refine iu rR (λx=>[rQ x]) [s.eB] U (λ_=>rfl) ?_;refine bw (mP G _ 1 1 [s.eB] U av) ?_;rintro _ _ ⟨VG,c10,rfl,rfl⟩;refine xD ?_;refine Cf b7 1 [cu s.kind.toNat] U U U ?_;refine iE VG U λh9=>?_;generalize hv9:eX [s.eB]=w9 at*;refine iw (zs:=[cu s.kind.toNat]) U U U U U bB λZ0 c30=>xS ?_;exact X.W (fin (Z0,c30))):p:=h
theorem bk5(h:p:=by
 refine jl Ptr (bp Ptr.cs) 5 ?_;refine UJ ((⟨(bJ x.1.name).2,x.1.data,false,[]⟩,wu,x.2,(none,0)):SI) jz mD ?_;exact X.W (dW ⟨(⟨(bJ x.1.name).2,x.1.data,false,[]⟩,(none,0)),Qn,U⟩)):p:=h
theorem bp2(h:p:=by
 refine xS ?_;refine nI (l:=m) (h:=l.length) U U U U (Bd.at U U) Bd.no hm (ar _) hc λa3 c3 hc3=>?_;have hld:((l.drop m).take (l.length - m))=l.drop m:=a00;rw[hld];have hlm:l.length - m=(l.drop m).length:=nH;rw[hlm]at hc3 ⊢;refine xS ?_;exact X.ret hb (.tmps U) ⟨_,⟨by rw[e];rfl,U⟩,by rw[e];exact nO lF p (l.drop m,w) U ⟨(a3,c3),hc3⟩⟩):p:=h
theorem bC4(h:p:=by
 refine xS ?_;refine dU hG hb (jy GG false) U U U (aN.refl _) (λe he=>⟨(),by rw[rA];rfl,U,U⟩) (λx hx=>by cases hx)):p:=h
theorem bh8(h:p:=by
 refine UG w bW U U U U (zv:=.agg #[.slice none 0 0,.nilFunc,.nilFunc]) (λw _=>Tryz.zeroValue121 w) ?_;rw[hM1,hM2];refine X.sw ?_;refine xL [5,6,7] ?_;refine xS ?_;refine X.st U U U U U jD iA ?_;refine X.go 1 U U ?_;refine X.sw ?_;refine mr U U U U ?_;refine X.go 1 U U ?_;refine X.sw ?_;refine HO U U ?_;exact X.W (fin ⟨(b4,_,XX),hR⟩)):p:=h
theorem bt6(h:p:=by
 have hi:i<xs.length:=bE;refine xS ?_;refine cH U U U U U hi hn λbl o=>xS ?_;rw[jt _ xs i hi]at hE;refine xB ?_ ?_<;>intro h2
 ·rw[if_pos av]at hE;refine xS ?_;refine bO hb (.tmps U) ⟨by rw[hE];rfl,U⟩
 ·rw[if_neg bE]at hE;refine xS ?_;refine X.less (ih ⟨i+1,by omega,hE⟩ bE) (EL U U U (eN U pH)) (aN.drop _ _)):p:=h
theorem aj1(h:p:=by
 refine xD ?_;exact X.W (ih ⟨(pre++[S[i].1],S.eraseIdx i,some S[i]),hp⟩ bE)):p:=h
theorem bg3(h:p:=by
 have fw:i=n:=bE;subst fw;rw[bc av]at hE;refine xS ?_;exact bO hb (.tmps U) ⟨by rw[hE];rfl,U⟩):p:=h
theorem Se(h:p:=by
 ·subst hB;have h5:=lP.cd (di (wq _ _));refine⟨some .ret,_,by have:=run_endLoop (P:=P) (dS h5) nH;rw[qL]at this;exact this,?_⟩;have h6:=(oJ h5 (.loop {({rec with state:=.done,pending:=some .ret}:Loop)with state:=.exhausted})).cd (aN.drop _ _);rw[qL]at h6;exact wpIn_ret (stop w.heap.size hb _ _ ⟨he.1,by show _::a.defers=_;rw[he.2.1],he.2.2⟩ h6)):p:=h
theorem ad6(h:p:=by
 refine xS ?_;exact bO hb (.tmps U) ⟨by grind [lx],U⟩):p:=h
theorem bh9(h:p:=by
 refine xD ?_;refine zL r ?_;exact X.ret hb (.tmps U) ⟨_,.inr U,ay⟩):p:=h
theorem bB8(h:p:=by
 ·rw[if_neg bE]at e0;refine xB ?_ ?_<;>intro h5
  ·rw[if_pos bE]at e0;refine xS ?_;refine X.ret hb (.tmps U) ⟨_,⟨by rw[e0];rfl,by rw[e0]⟩,?_⟩;exact aN.trans ay (gH _)
  ·rw[if_neg bE]at e0;refine xS ?_;refine X.ret hb (.tmps U) ⟨_,⟨by rw[e0];rfl,by rw[e0]⟩,?_⟩;exact aN.trans ay (gH _)):p:=h
theorem bu0(h:p:=by
 refine xS ?_;refine X.cd (dY hp _) ?_;refine fi uh M m U ⟨q,pa,pc,ss,sa,sc,fa,fc,fx⟩ ?_;refine dU hG hb (y4 GG M L m nm right a9 _ c9 U Ml h9 hm av av av) U U U iv (λe he=>⟨e,by rw[he],U,U⟩) ?_;rintro m1 h1 v B ⟨rfl,rfl⟩;rw[h1];refine xD ?_;exact bO hb (.tmps U) ⟨_,U,U,U⟩):p:=h
theorem bx6(h:p:=by
 refine xS ?_;refine X.less (ih ⟨i+1,by omega,hE⟩ bE) (EL U U U (eN U pH)) (aN.drop _ _)):p:=h
theorem bm5(h:p:=by
 refine Uy Tc ks t ht (ek,eb,ez) ?_;rw[IG];refine X.cd (dY hI _) ?_;refine fi oZ C c U ⟨aa,ac,KB,OB,ks,oz⟩ ?_;exact bO hb (.tmps U) ⟨by grind [lx],U⟩):p:=h
theorem Yi(h:p:=by
 exact bO hb (.tmp U (.gX U iA (.tmp U .nil))) ⟨U,U⟩):p:=h
theorem bl9(h:p:=by
 rintro v B (⟨he,rfl,rfl⟩|⟨he,p,rfl,rfl⟩)
 ·refine xD ?_;exact l8 (l:=[.nilIface]) (us:=[au S]) (cap:=[]) hb hG (gi GG S D x1) (.tmps U) ⟨_,qJ.ok' he,ay⟩
 ·refine xD ?_;exact l8 (l:=[.iface 178 (au p)]) (us:=[au S]) (cap:=[]) hb hG (gi GG S D x1) (.tmps U) ⟨_,qJ.err he,ay⟩):p:=h
theorem ah1(h:p:=by
 subst bu;refine xS ?_;exact bO hb (.gX U iA (.tmp U .nil)) ⟨U,U⟩):p:=h
theorem af9(h:p:=by
 have h1:=oW m.now I.toNat (ZY av);have h2:=rY m.now (I.toNat+1);have h3:m.now[I.toNat]'(ZY av)=q[I.toNat].1:=by
  have:rB m.now I.toNat=m.now[I.toNat]'(ZY av):=by unfold rB;simp[List.getD,aV (ZY av)]
  rw[<-this,<-kL,DQ q _ hiq]
 rw[h3]at h1;omega):p:=h
theorem bf4(h:p:=by
 refine xS ?_;exact X.ret hb (.tmps U) ⟨_,⟨by rw[e0];rfl,by rw[e0]⟩,qv (M:=M) (bU:=bU) dp j6⟩):p:=h
theorem a07(h:p:=by
 cases k with
 |pr p=>exact(hk.out p U).elim
 |it k=>exact oK hw ⟨λ_ _=>trivial,by rw[CZ _ hr nH];exact h⟩
 |dr=>show wpList _ _ _ _ _ _;unfold wpList;rw[hw];refine .inl ?_;unfold Oper.wp;rw[hr];exact h
 |sw=>show wpList _ _ _ _ _ _;unfold wpList;rw[hw];refine .inl ?_;unfold Oper.wp;rw[hr];exact h):p:=h
theorem bn8(h:p:=by
 ·rfl
 ·rfl
 refine xS ?_;refine X.cd (dY hI _) ?_;refine fi oZ C c U ⟨aa,ac,KB,OB,ks,oz⟩ ?_;exact bO hb (.tmps U) ⟨by grind [lx],U⟩):p:=h
theorem bu2(h:p:=by
 refine xS ?_;refine dA U U U U U ?_ ?_
 ·refine X.add U U U U av av (xS ?_);refine wg r Fm U U U U ?_;rw[kV];refine xS ?_;exact X.W (dW ())
 ·refine xS ?_;refine wg r Fm U U U U ?_;rw[kV];refine xS ?_;exact X.W (dW ())):p:=h
theorem bD9(h:p:=by
 rw[if_neg bE]at hE;refine xS ?_;refine X.less (ih ⟨i+1,by omega,hE⟩ bE) (EL U U U (eN U pH)) (aN.drop _ _)):p:=h
theorem bm2(h:p:=by
 refine xZ ?_;intro b44;refine eD (((e,a8,c8):WB Bs)) U U U U av U iA iA iA iA iA av λa45 c45=>?_;refine be0 Yg Z ((e,a8,c8):WB Bs) (xS ?_);exact X.W (ih ⟨(i+1,(a45,c45),Z++[((e,a8,c8):WB Bs)]),by omega,by grind⟩ bE)):p:=h
theorem bC1(h:p:=by
 refine xS ?_;refine dU hG hb (y4 GG M (L+3) m2 name fr a7 _ c7 U h72 h71 Xu av av av) U U U iv (λe he=>⟨e,by rw[wm,ue,he],U,U⟩) ?_;rintro m3 h3 v B ⟨rfl,rfl⟩;rw[h3]at ue;refine xD ?_;exact X.W (dW ⟨(m3,nm2),ue⟩)):p:=h
theorem al7(h:p:=by
 refine⟨none,_,by have:=run_endLoop (P:=P) (dS h5) (by rw[qL];simp);rw[qL]at this;exact this,?_⟩;have h6:=(oJ h5 (.loop {rec with state:=.exhausted})).cd (aN.drop _ _);rw[qL]at h6;exact done w.heap.size hb _ _ ⟨he.1,by show _::a.defers=_;rw[he.2.1],he.2.2⟩ h6):p:=h
theorem bh3(h:p:=by
 subst bu;refine xS ?_;exact bO hb (.gX U iA (.cell U iA .nil)) ⟨U,U⟩):p:=h
theorem bm3(h:p:=by
 refine xS ?_;refine cH U U U U U hk hn λb2 o2=>xS ?_;rw[show fO xs[k]=.int .u8 xs[k].toNat from rfl];refine xB ?_ ?_<;>intro h8
 ·refine xS ?_
  refine out (0,0,23) ?_ ?_ ?_ ?_
  ·grind
  all_goals rfl
 ·refine xS ?_;refine X.W (fin ⟨(),hl.2 (λh=>by grind)⟩)):p:=h
theorem bn2(h:p:=by
 rw[h0]at hs;have h1:=VS.freeze (bo:=λx:UInt8=>[fO x]) F U (λ_=>rfl) β w hs;refine h1.cd ?_;intro r o iz;obtain⟨o1,o2,hd,h1,h2,hp,ug⟩:=iz;refine⟨o1,o2,hd,h1,h2,λr' nG y hy=>?_,ug⟩;rw[bD.1 hy];refine⟨?_,?_,hp r' nG⟩;all_goals grind):p:=h
theorem bC3(h:p:=by
 intro x hx;obtain⟨i,hi,rfl⟩:=List.mem_iff_getElem.1 hx;have h1:=oW (q.map (·.1)) i Ij;have h2:=rY (q.map (·.1)) (i+1);rw[ft]at h1;have h3:=jT (dp _ (bj.2 ⟨_,hx,U⟩));exact⟨by omega,by omega⟩):p:=h
theorem bn0(h:p:=by
 ·refine aM 14 true U bB (xS ?_);exact bO hb (.tmps U) ⟨by simp only[Dm.ref];rw[if_pos hc];rfl,U⟩
 ·refine aM 14 false U bB (xS ?_);exact bO hb (.tmps U) ⟨by simp only[Dm.ref];rw[if_neg hc];rfl,U⟩):p:=h
theorem bC2(h:p:=by
 exact X.W (ih ⟨i+1,by omega⟩ bE)):p:=h
theorem a99(h:p:=by
 refine qS a.word bW U U U U (zv:=.agg #[.slice none 0 0,.nilFunc,.nilFunc]) (λw _=>Tryz.zeroValue121 w) ?_;rw[hM1];refine xS ?_;refine X.st U U U U U (ShR.one _ _ _ _) iA (xS ?_);exact X.W (dW (b5,aq,sh.ib.length))):p:=h
theorem bu1(h:p:=by
 exact⟨(lv.refl h).mono av,λe he=>by cases he;(constructor<;>first|decide|(dsimp only;decide)),λz hz=>by cases hz⟩):p:=h
theorem bj3(h:p:=by
 refine xS ?_;exact X.ret hb (.tmps U) ⟨_,⟨by rw[e];rfl,U⟩,by rw[e];exact nO lF p (l,true) U ⟨(a,c),hc⟩⟩):p:=h
theorem bB9(h:p:=by
 refine List.Perm.trans (List.Perm.append_right _ ee) ?_;rw[ae];exact fS _ ee):p:=h
theorem aj2(h:p:=by
 refine xP ?_;intro b3;exact xR):p:=h
theorem PN(h:p:=by
 have hT:uQ name c=none:=by rw[hT,if_neg nH]
 rw[hT]at hE;dsimp only at hE;refine xS ?_;exact X.less (ih ⟨(f,c+1),by dsimp only;omega,by dsimp only at hfc ⊢;omega,hE⟩ gm) (s2_ U (eN U nH)) (aN.nil _)):p:=h
theorem aG7(h:p:=by
 refine cg U λb β hb hG=>xS ?_;exact bO hb (.tmps U) ⟨by simp[lx],U⟩):p:=h
theorem Wb(h:p:=by
 refine xS ?_;refine jc [bx b4 153 p.cs,bx b5 9 [ao body]] ?_;exact bO hb (.gX U U (.tmp U .nil)) ⟨U,U⟩):p:=h
theorem GK(h:p:=by
 refine xS ?_;refine X.less (ih ⟨(i+1,some ⟨bl8,0,none⟩,c8),by omega,by simp⟩ bE) ?_ ?_
 ·dsimp only;rw[j6,sE];exact(ad8 U U U U U U U U U (eN U pH))
 ·dsimp only;rw[j6];exact ay):p:=h
theorem Qq(h:p:=by
 ·exact(eW _).trans (jq (by rw[iz];simp[nu]) [])
 ·rintro v B ⟨rfl,rfl⟩;rw[<-e1];refine xD ?_;exact xR):p:=h
theorem aP5(h:p:=by
 refine xS ?_;exact bO hb (.tmps U) ⟨_,U,U⟩):p:=h
theorem PO(h:p:=by
 subst bu;refine xS ?_;refine fi dX (S,D,1) x U (W,K) ?_;exact X.W (dW ())):p:=h
theorem bq1(h:p:=by
 exact X.less (dW ⟨(b6,p,((fa,fn,fc),m1,m2,m3),e,C),hO⟩) (Sub.of U) (aN.cons _ ((pU _ _).trans ((pU _ _).trans ((pU _ _).trans ((pU _ _).trans (aN.cons _ ((pU _ _).trans (pU _ _))))))))):p:=h
theorem bo6(h:p:=by
 refine xS ?_;exact bO hb (.gX U U (.tmp U .nil)) ⟨by rw[hp];rfl,U⟩):p:=h
theorem aL0(h:p:=by
 split<;>exact Ul):p:=h
theorem YG(h:p:=by
 subst ey;refine xS ?_;exact bO hb (.gX U U (.tmp U .nil)) ⟨U,U⟩):p:=h
theorem JX(h:p:=by
 refine xS ?_;refine jl Ptr (bp Ptr.cs) 5 ?_;refine UJ ((⟨(bJ x.1.name).2,x.1.data,false,[]⟩,wu,x.2,(none,0)):SI) jz mD ?_;exact X.W (dW ⟨(⟨(bJ x.1.name).2,x.1.data,false,[]⟩,(none,0)),Qn,U⟩)):p:=h
theorem bn1(h:p:=by
 exact dU hG hb (jy GG false) U U U (aN.refl _) (λ_ _=>⟨(),kL,U,U⟩) (λx hx=>by cases hx)):p:=h
theorem aJ9(h:p:=by
 refine xS ?_;exact bO hb (.tmps U) ⟨by simp[lx,h],U⟩):p:=h
theorem aK1(h:p:=by
 ·dsimp only;rw[Mt];exact(YX U U U U U (eN U pH))
 ·dsimp only;rw[Mt];exact ay):p:=h
theorem aL3(h:p:=by
 refine qi x.key bW U U U U ?_;rw[SS];refine xS ?_;refine X.less (ih ⟨i+1,by omega⟩ gm) (EL U U U (eN U pH)) ?_;dsimp only;rw[j6];exact ay):p:=h
theorem aB5(h:p:=by
 refine xS ?_;exact X.W (fin ())):p:=h
theorem aM7(h:p:=by
 intro r o iz;obtain⟨o1,o2,_,_,_,hp,_⟩:=hf.out r o iz;exact⟨fL,o,cR _,cJ _,.refl _,λr' nG=>(hp r' nG x hx).1.2.2,fL,o,cR _,cJ _,.refl _,λr' nG=>(hp r' nG x hx).2,iz⟩):p:=h
theorem aX7(h:p:=by
 refine xS ?_;refine X.less (pG ⟨(i+1,a2,c2),by dsimp only;omega⟩ gm) ?_ ?_
 ·dsimp only;rw[Mt];exact(YX U U U U U (eN U pH))
 ·dsimp only;rw[Mt];exact ay):p:=h
theorem W4(h:p:=by
 refine xS ?_;refine gW (fst:=[]) (us:=[]) (cap:=cap) hG Fy U U U U aN.es ?_;rintro v B ⟨rfl,rfl⟩;refine xD ?_;exact X.ret hb (.tmps U) ⟨[bx D 74 [_,_,_,_,_,_,_,_],S'],⟨U,U⟩,ay⟩):p:=h
theorem bE6(h:p:=by
 ·rfl
 ·rfl
 refine xS ?_;refine Uy Tc ks t ht (ek,eb,ez) ?_;rw[IG];refine X.cd (dY hI _) ?_;refine fi oZ C c U ⟨aa,ac,KB,OB,ks,oz⟩ ?_;exact bO hb (.tmps U) ⟨by grind [lx],U⟩):p:=h
theorem Xh(h:p:=by
 ·have h4:i=j:=by simp at h4;omega
  subst h4;rw[aj4]at g5;subst g5;refine xS ?_;exact X.W (fin ())):p:=h
theorem bI7(h:p:=by
 refine xD ?_;exact xR):p:=h
theorem aF4(h:p:=by
 rw[if_pos h2]at h4 ⊢;rw[if_pos (show(eA s bU).ga=1 from h2),if_pos (show(eA s bU).ga=1 from h2)];exact⟨_,⟨U,U⟩,aN.fZ (s:=s.oR) (bU:=dV.wrap (bU+1)) h4 hS⟩):p:=h
theorem aE7(h:p:=by
 exact X.ret hb (.tmps U) ⟨_,⟨U,U⟩,(nO j7 D t U (M,bU)).trans (jb ht [])⟩):p:=h
theorem aC6(h:p:=by
 rintro v B ⟨rfl,rfl⟩;rw[<-e1];refine xD ?_;exact xR):p:=h
theorem a18(h:p:=by
 exact X.W (pG ⟨j+1,by omega⟩ gm)):p:=h
theorem bB4(h:p:=by
 dsimp only;rw[j6];exact ay):p:=h
theorem Ys(h:p:=by
 have h1:e≠0:=Ic;have e0:=bad p e pN h1;refine xS ?_;exact X.ret hb (.tmps U) ⟨_,⟨[],by rw[e0];exact .inr ⟨h1,U,U⟩,by rw[e0]⟩,qv (M:=M) (bU:=bU) dp j6⟩):p:=h
theorem aO6(h:p:=by
 cases o with
 |none=>
  refine xP ?_;intro b3;exact xR
 |some s=>
  refine xP ?_;intro b3;exact xR):p:=h
theorem aB7(h:p:=by
 ·refine xD ?_;exact bO hb (.tmp U (.gX U iA (.tmp U .nil))) ⟨he,p,U,U⟩):p:=h
theorem aE6(h:p:=by
 rw[List.set_append_right _ _ av,h1,Nat.sub_self,aP h,List.set_cons_zero,aY,aV h,cq,bT];rfl):p:=h
theorem QJ(h:p:=by
 have rA:tr w=false:=by grind [tr]
 refine xS ?_;refine dU hG hb (jy GG false) U U U (aN.refl _) (λe he=>⟨(),by rw[rA];rfl,U,U⟩) (λx hx=>by cases hx)):p:=h
theorem ad1(h:p:=by
 ·rw[if_neg h2]at h4 ⊢;rw[if_neg (show ¬(eA s bU).done=true from h2)];exact⟨_,⟨U,U⟩,aN.fZ (s:={s.oR with down:=true}) (bU:=dV.wrap (bU+1)) h4 hS⟩):p:=h
theorem bB3(h:p:=by
 refine du (j:=(i+j) / 2) U U U U av av (xS ?_);refine gN (bo:=en) (l:=l) ((i+j) / 2) U U U U (λ_=>rfl) (aQ _) mD (xS ?_);exact B4):p:=h
theorem aH1(h:p:=by
 ·split<;>exact Ul):p:=h
theorem aJ7(h:p:=by
 rw[e2]at ey;subst ey;refine xS ?_;exact bO hb (.gX U U (.tmp U .nil)) ⟨U,U⟩):p:=h
theorem aF8(h:p:=by
 refine xS ?_;refine dA U U U U U ?_ ?_
 ·refine xS ?_;refine dA U U U U U ?_ ?_;all_goals
   refine xS ?_
   exact X.W hf
 ·refine xS ?_;exact X.W hf):p:=h
theorem PS(h:p:=by
 refine xS ?_;exact bO hb (.tmps U) ⟨by rw[<-hq];rfl,U⟩):p:=h
theorem aN7(h:p:=by
 refine X.less (ih ⟨(i+1,a8,c8),by omega⟩ bE) ?_ ?_
 ·dsimp only;rw[j6];exact(Y7 U U U U (eN U pH))
 ·dsimp only;rw[j6];exact ay):p:=h
theorem aD5(h:p:=by
 intro n z hn;unfold Hp.one at hn;split at hn
 ·rename_i e;cases hn;rw[e];exact hb
 ·cases hn):p:=h
theorem bi4(h:p:=by
 exact yg hb (.tmps U) ⟨_,⟨a6,c6,U,U⟩,ay⟩):p:=h
theorem aA2(h:p:=by
 intro p hp;refine xS ?_;refine aM 27 false U bB (xS ?_);refine du U U U U U hi (xS ?_);refine uo U U U 1 U U (xS ?_);exact hp):p:=h
theorem Vj(h:p:=by
 rw[if_pos h];have hl:=NF h;refine xS ?_;refine mM (h:=s.length - p.length) U U U Bd.no (Bd.at U av) (al _) (Nat.sub_le _ _)  ?_;exact xR):p:=h
theorem Xm(h:p:=by
 rw[if_pos av]at hE;refine xS ?_;refine bO hb (.tmps U) ⟨by rw[hE];rfl,U⟩):p:=h
theorem aJ8(h:p:=by
 refine X.ret hb (.tmps U) ⟨_,⟨by rw[e0];rfl,by rw[e0]⟩,?_⟩;dsimp only[ofL];rw[show(Mo:Int)+1=((Mo+1:Nat):Int)from by simp];exact aN.trans ay (gH _)):p:=h
theorem az1(h:p:=by
 simp only[hyx,decide_false,bY,if_false];cases ks.findIdx? (·=x)<;>grind):p:=h
theorem aG6(h:p:=by
 refine aW U λb β hb hG=>?_;refine xP ?_;intro b2;refine xP ?_;intro b3;exact xR):p:=h
theorem aO8(h:p:=by
 rw[e1]at j6;refine xS ?_;refine X.less (ih ⟨i+1,by omega⟩ gm) (EL U U U (eN U pH)) ?_;dsimp only;rw[j6];exact ay):p:=h
theorem bt2(h:p:=by
 refine xS ?_;refine X.W (fin ⟨(),hl.2 (λh=>by grind)⟩)):p:=h
theorem bC6(h:p:=by
 have h1:n<0:=bE;rw[if_pos h1];refine xS ?_;exact X.ret hb (.tmps U) ⟨_,⟨U,U⟩,(aN.fZ (s:=t) (bU:=bU) dp (aN.refl _)).trans (jb ht [])⟩):p:=h
theorem aM3(h:p:=by
 rw[AL]at Gn;exact dU hG hb (ve y av) U U U (aN.refl _) (λ_ _=>⟨(),hE1 ⟨_,Gn⟩,U,U⟩) (λx hx=>by rw[AL]at hx;cases hx)):p:=h
theorem aD9(h:p:=by
 intro l;induction l with
 |nil=>exact ar _
 |cons x t iht=>
  unfold SP;split
  ·rw[ax];omega
  ·rw[ax,ax];omega):p:=h
theorem az2(h:p:=by
 refine Us U U av U de (xS ?_);refine CJ (l:=0) (h:=i) U U U Bd.no (Bd.at U U) av av ?_;rw[aE9];exact xR):p:=h
theorem Qi(h:p:=by
 rintro v B ⟨rfl,rfl⟩;refine xD ?_;exact xR):p:=h
theorem aQ8(h:p:=by
 refine⟨fL,o,cR _,cJ _,.refl _,λr' nG x hx=>?_,hh⟩;rcases cM.1 hx with hx|hx
 ·exact kL r' nG x hx
 ·exact tK r' nG x hx):p:=h
theorem bq0(h:p:=by
 rw[if_pos bE]at e;refine xS ?_;exact X.ret hb (.tmps U) ⟨_,⟨by rw[e];rfl,U⟩,by rw[e];exact nO lF p (l,true) U ⟨(a,c),hc⟩⟩):p:=h
theorem aO9(h:p:=by
 refine xS ?_;exact X.W (ih ⟨i+1,by omega⟩ bE)):p:=h
theorem aA6(h:p:=by
 by_cases h12:21<(iV x.1).length
 ·simp only[h12,decide_true,if_true];omega
 ·simp only[h12,decide_false];simp only[bY,if_false];omega):p:=h
theorem aF2(h:p:=by
 ·refine xS ?_
  refine X.less (fin ⟨(0,qo f,⟨f.kind,.zero,.zero,f.fin⟩),e4⟩) (Y7 U U U U (eN U ?_)) ay
  grind [qo]):p:=h
theorem bo3(h:p:=by
 split
 ·exact ar _
 ·exact AP (k:=0) (Nat.le_of_eq (QA _ _ _))):p:=h
theorem aA1(h:p:=by
 have hp:kJ (i+1) (L.drop (i+1)) (q.map (·.1)++[])=res:=hp;rw[ah]at hp;exact X.W (ih ⟨(i+1,q,a,c),by omega,hp,by grind⟩ bE)):p:=h
theorem ax5(h:p:=by
 refine HP b20 hn oM ?_;refine xJ (Dc G _ 1 1 [xs] U av bB) ?_;rw[Z3];dsimp only[Rj];refine xS ?_;exact X.W (fin b8)):p:=h
theorem az4(h:p:=by
 refine nR [0,1,3] [0] ?_;refine xL [0,1,3] ?_;refine xJ (KF GG U s hs) ?_;refine xP ?_;intro p;exact bO hb (.tmps U) ⟨p,U,U⟩):p:=h
theorem aH9(h:p:=by
 exact X.W (ih ⟨i+1,by omega⟩ gm)):p:=h
theorem bx8(h:p:=by
 refine xS ?_;exact out false bE U):p:=h
theorem bs7(h:p:=by
 refine hc.mono ?_;rintro e u' w' ⟨rfl,⟨v,rfl⟩,zU⟩;have h4:=nL B w' zU;exact⟨_,mO (hl β a w' he h4),⟨C,h2,h4.cd h3⟩⟩):p:=h
theorem VI(h:p:=by
 exact bO hb (.tmp U (.tmp U .nil)) ⟨U,U⟩):p:=h
theorem bE3(h:p:=by
 refine xS ?_;refine yh Z j hjZ (⟨no,data,uX,fk⟩,xb,(xa,xc),(ya,yc)) ?_;rw[XW];exact X.W (pG ⟨j+1,by omega⟩ gm)):p:=h
theorem Zn(h:p:=by
 have hd:s.down=true:=hd;rw[if_pos hd]at bu;subst bu;refine xS ?_;exact bO hb (.tmp U (.gX U iA (.tmp U .nil))) ⟨U,U⟩):p:=h
theorem Yq(h:p:=by
 refine h3.cd (Pj F λr IA ZV y hy=>?_);rcases bK.1 hy with rfl|hy
 ·exact ZV y (bD.2 U)
 ·exact IA y hy):p:=h
theorem a'9(h:p:=by
 ·have h3:p x=true:=by grind
  refine xS ?_;exact X.less (ih ⟨(i,j+1,m),hdr h3⟩ bE) (EL U U U (eN U nH)) ay):p:=h
theorem bI6(h:p:=by
 exact(ad8 U U U U U U U U U (eN U pH))):p:=h
theorem aJ3(h:p:=by
 intro o Z;refine List.Perm.trans (List.Perm.append_right _ ee) ?_;rw[ae];exact fS _ ee):p:=h
theorem Wi(h:p:=by
 exact⟨h,lv.refl hd,by constructor<;>first|decide|(dsimp only;decide)⟩):p:=h
theorem bb5(h:p:=by
 subst bu;refine xS ?_;refine fi dX (S,D,l) x U (W,K) ?_;exact xR):p:=h
theorem aO1(h:p:=by
 rw[hn];rintro _ _ ⟨D1,rfl,rfl⟩;refine xD ?_;refine xJ (mo 0 av av) ?_;exact bO hb (.tmps U) ⟨U,D1,U⟩):p:=h
theorem bD3(h:p:=by
 exact⟨_,_,_,_,_,K9 GG b6 b7 e,aN.es,.gX U iA (.cell U iA .nil),(by subst bu;exact⟨U,U⟩),aN.nil _⟩):p:=h
theorem bb2(h:p:=by
 intro fs;cases ks with
 |nil=>simp at h
 |cons y ks0=>
  simp only[aK,List.cons.injEq]at h;simp[Instr.findNow,h.1,Instr.sameNow]):p:=h
theorem aH8(h:p:=by
 simp only[List.append_eq,ai,ae];exact ay):p:=h
theorem aI4(h:p:=by
 refine X.cd (dY hp _) ?_;refine fi uh M m U ⟨q,pa,pc,ss,sa,sc,fa,fc,fx⟩ ?_;exact bO hb (.tmps U) ⟨_,U,U,U⟩):p:=h
theorem bk9(h:p:=by
 subst e0;refine xS ?_;refine jc [bx b4 153 p.cs,bx b5 9 [ao body]] ?_;exact bO hb (.gX U U (.tmp U .nil)) ⟨U,U⟩):p:=h
theorem W9(h:p:=by
 exact(eW _).trans ((aN.drop _ _).trans ((aN.drop _ _).trans ((aN.drop _ _).trans ((aN.drop _ _).trans (jq j6 [])))))):p:=h
theorem aw7(h:p:=by
 refine HM (by rw[show(e !=0)=true from by simp[he]];rfl) (xS ?_);exact bO hb (.gX U U (.tmp U .nil)) ⟨U,U⟩):p:=h
theorem ay1(h:p:=by
 exact⟨_,_,_,_,_,aq3 GG b2 [.slice a q.length c] ⟨_,U⟩,aN.es,.cell U U (.tmp U .nil),⟨U,U⟩,aN.nil _⟩):p:=h
theorem ag4(h:p:=by
 rw[h1,cz];congr 1;apply bQ;intro x hx;simp only[Function.comp];unfold tL;rw[La h.nd hx];simp):p:=h
theorem aH3(h:p:=by
 refine xS ?_;exact X.W (pG ⟨(j+1,V),by dsimp only;omega,hVn,hVi,λx=>by dsimp only;rw[hV x,wx x]⟩ gm)):p:=h
theorem bI5(h:p:=by
 refine xS ?_;exact X.W (ih ⟨i+1,by omega⟩ gm)):p:=h
theorem Qr(h:p:=by
 have:c=1\/c=2\/c=3:=av;rcases this with rfl|rfl|rfl<;>decide):p:=h
theorem bs3(h:p:=by
 cases c with
 |none=>exact λa w he hs=>this a w (key _ U a he) hs
 |some c=>exact λa w he hs=>this a w (key _ U a he) hs):p:=h
theorem Zl(h:p:=by
 exact X.less (ih ⟨(i+1,j+1,m.set i x),PY h3⟩ bE) (EL U U (eN U nH) (eN U nH)) ay):p:=h
theorem aP7(h:p:=by
 exact(s8_ U U U U U U U (eN U pH))):p:=h
theorem aQ2(h:p:=by
 ·dsimp only;rw[Mt];exact(s8_ U U U U U U U (eN U pH))
 ·dsimp only;rw[Mt];exact ay):p:=h
theorem Xd(h:p:=by
 rw[beq_eq_false_iff_ne];rintro rfl;grind [Fp]):p:=h
theorem aO7(h:p:=by
 exact bO hb (.tmp U (.tmp U (.tmp U .nil))) ⟨U,U⟩):p:=h
theorem aK6(h:p:=by
 rw[if_pos he]at bu;subst bu;refine xS ?_;exact bO hb (.tmp U (.gX U iA (.tmp U .nil))) ⟨U,U⟩):p:=h
theorem az6(h:p:=by
 have hn:Fp w[i]=false:=by grind [Fp]
 rw[hn,ab6]at hE;exact bO hb (.tmps U) ⟨by grind [lx,tr],U⟩):p:=h
theorem aC4(h:p:=by
 exact h0 153 Ul):p:=h
theorem bt1(h:p:=by
 exact h0 151 Ul):p:=h
theorem LS(h:p:=by
 unfold be.gZ;split
 ·split
  ·exact h
  ·exact aT _ _
 ·split
  ·exact aT _ _
  ·exact h):p:=h
theorem aG4(h:p:=by
 rename_i h;split
 ·exact vR h
 ·split
  ·exact Ul
  grind [AT]):p:=h
theorem aJ2(h:p:=by
 refine xS ?_;exact go true bE U U U inferInstance):p:=h
theorem aj3(h:p:=by
 exact dU hG hb (jy GG false) U U U (aN.refl _) (λ_ he=>⟨(),e,U,U⟩) (λx hx=>by cases hx)):p:=h
theorem aF3(h:p:=by
 rw[List.getElem?_append_right av,h1,Nat.sub_self,List.getElem?_drop,Nat.add_zero,aV h]):p:=h
theorem aK3(h:p:=by
 have hE:bL xs at_=(.zero,0,40):=by grind [bL]
 refine xS ?_;exact J5 b4 40 hE U U U inferInstance):p:=h
theorem aN5(h:p:=by
 exact aT _ _):p:=h
theorem aQ1(h:p:=by
 cases hw:kT q nm<;>grind [Dm.ref]):p:=h
theorem bC5(h:p:=by
 refine xS ?_;exact X.ret hb (.tmps U) ⟨[bx W 177 (Wr.cs D {w with shut:=true}),S'],⟨U,by simp⟩,ay⟩):p:=h
theorem aI3(h:p:=by
 split
 ·rename_i f e hf
  have hg:=(lY hf).1
  have hl:=ar9 h hg
  have hle:=h.le
  grind [aP8]
 ·exact h):p:=h
theorem Qh(h:p:=by
 rintro v B ⟨p,rfl,rfl⟩;refine xD ?_;refine qQ U U U (xS ?_);exact bO hb (.tmps U) ⟨p,U,U⟩):p:=h
theorem Zs(h:p:=by
 split
 ·exact ar _
 ·split
  ·exact ar _
  ·exact AP (k:=0) (Nat.le_of_eq (QA _ _ _))):p:=h
theorem ay7(h:p:=by
 rw[if_neg av]at e0;subst e0;refine xS ?_;exact bO hb (.gX U U (.tmp U .nil)) ⟨U,U⟩):p:=h
theorem ax0(h:p:=by
 rename_i h0;split at e
 ·cases e
 ·rename_i m' e'
  cases e
  have:=uj h l1 l2 e'
  grind [O1]):p:=h
theorem bo8(h:p:=by
 refine xS ?_;exact no4 e0 U U):p:=h
theorem ak8(h:p:=by
 have:=hno ⟨c,iq,by simp[yO];omega⟩;subst this;exact bO hb (.tmp U (.tmp U .nil)) ⟨U,U⟩):p:=h
theorem Wa(h:p:=by
 ·rfl
 ·rfl
 refine xS ?_;exact X.ret hb (.tmps U) ⟨[bx b1 155 s.cs],⟨by grind [lx],U⟩,ay⟩):p:=h
theorem Vq(h:p:=by
 unfold nM at*;rw[eQ,aG,aA,aK,eC];omega):p:=h
theorem aD4(h:p:=by
 refine xS ?_;exact bad av U U):p:=h
theorem aH2(h:p:=by
 rw[if_neg av]at Jd;rw[<-Jd];refine xS ?_;exact X.W (pG ⟨t+1,by omega,by grind⟩ bE)):p:=h
theorem av9(h:p:=by
 cases he;(constructor<;>first|decide|(dsimp only;decide))):p:=h
theorem bt5(h:p:=by
 rintro v w' ⟨B,hB,zU⟩;exact h v B hB hb _ _ (fU.put (E:=⟨N,vs,ds⟩) he hn v) (nL B w' zU)):p:=h
theorem aI5(h:p:=by
 exact X.W (ih ⟨(i+1,pre,d2),by omega,hw⟩ bE)):p:=h
theorem aG9(h:p:=by
 rw[<-tY];exact Dq (by rw[tY];exact dp.nd)):p:=h
theorem bg4(h:p:=by
 rw[show(Fw b.roundOf).round=none from l9.ro];exact hen):p:=h
theorem aC0(h:p:=by
 rw[hn];rintro _ _ ⟨rfl,rfl⟩;refine xD ?_;refine xJ (mo 70 av av) ?_;exact xR):p:=h
theorem aB4(h:p:=by
 refine xS ?_;refine qQ U U U (xS ?_);exact Uo hb U U (λ_=>rfl) ⟨_,U,U,U⟩):p:=h
theorem bp4(h:p:=by
 intro n z hn;unfold Hp.one at hn;split at hn
 ·rename_i e;cases hn;rw[e];exact hf.o _ _ hob
 ·cases hn):p:=h
theorem aO5(h:p:=by
 rw[if_pos h1]at e0;subst e0;refine xS ?_;exact bO hb (.gX U U (.tmp U .nil)) ⟨U,U⟩):p:=h
theorem aA3(h:p:=by
 have h1:1<=s.length:=bE;refine xS ?_;exact bO hb (.tmps U) ⟨by grind [lx,dy],U⟩):p:=h
theorem Yu(h:p:=by
 have h2:q.1.length<=2048:=bE;refine xS ?_;exact bO hb (.tmps U) ⟨by grind [lx],U⟩):p:=h
theorem aM1(h:p:=by
 refine xS ?_;exact X.ret hb (.tmps U) ⟨_,⟨by rw[e0];rfl,by rw[e0]⟩,close inferInstance⟩):p:=h
theorem VL(h:p:=by
 refine xS ?_;exact X.ret hb (.tmps U) ⟨[bx D 74 [_,_,_,_,_,_,_,_],S],⟨U,U⟩,ay⟩):p:=h
theorem ba3(h:p:=by
 ·refine xA ?_;intro t7;refine xE zJ ?_;refine xL [6,7] ?_;refine xS ?_;exact X.W (fin t7)):p:=h
theorem ae8(h:p:=by
 ·refine xA ?_;intro b7;refine UP U U U U hj1 hj2 hj3 (xS ?_);exact X.W (dW b7)):p:=h
theorem bF0(h:p:=by
 rw[if_neg a08]at hq;refine xS ?_;exact bO hb (.tmps U) ⟨by rw[<-hq];rfl,U⟩):p:=h
theorem bF1(h:p:=by
 rw[bne_iff_ne];intro h;have e1:(48:UInt8).toNat=48:=U;exact h3 (aa2.1 av)):p:=h
theorem by1(h:p:=by
 refine xS ?_;exact X.ret hb (.tmps U) ⟨_,.inr ⟨by grind,by rw[e0];rfl,U⟩,aN.nil _⟩):p:=h
theorem by8(h:p:=by
 refine iQ (di ?_) F;rw[cq];exact(List.perm_append_singleton _ _).symm):p:=h
theorem aN0(h:p:=by
 exact bO hb (.tmps U) ⟨by rw[bu];rfl,U⟩):p:=h
theorem bs8(h:p:=by
 refine xS ?_;refine qQ U U U (xS ?_);exact err 0 2 (by rw[e0,hE]) (.inr U) U U):p:=h
theorem aQ4(h:p:=by
 refine xS ?_;exact out 46 (by grind [ca]) U):p:=h
theorem az7(h:p:=by
 have hE:pJ xs count=(0,20):=by grind [pJ]
 refine xS ?_;refine early 0 20 hE ?_ ?_<;>rfl):p:=h
theorem aL9(h:p:=by
 split
 ·exact ar _
 ·exact LB _ _ _ _ (by grind [Yk]) (ar _)):p:=h
theorem aM5(h:p:=by
 rw[aY,dO,aV hi,List.foldl_append];rfl):p:=h
theorem bs2(h:p:=by
 refine xS ?_;exact X.less (J0 ()) (EL U U U (eN U bB)) ay):p:=h
theorem bF4(h:p:=by
 exact⟨(lv.refl h).mono av,by constructor<;>first|decide|(dsimp only;decide)⟩):p:=h
theorem aJ1(h:p:=by
 rw[if_neg bE]at hE;refine xS ?_;refine X.W (ih ⟨i+1,by omega,hE⟩ bE)):p:=h
theorem ae0(h:p:=by
 refine xS ?_;exact X.ret l9 (.tmps U) ⟨[],by rw[e0];exact⟨U,U⟩,aN.nil _⟩):p:=h
theorem bg5(h:p:=by
 exact(eW _).trans ((aN.drop _ _).trans ((aN.drop _ _).trans (jq j6 [])))):p:=h
theorem bw8(h:p:=by
 rw[if_pos bE]at hE;refine xS ?_;exact J5 b4 45 hE U U U inferInstance):p:=h
theorem bE4(h:p:=by
 have h:J= -1:=bE;have hf:xs.filter (λx=> !p x)=xs:=by
  grind
 rw[hf];exact xR):p:=h
theorem aO0(h:p:=by
 ·refine xS ?_;exact out false bE U):p:=h
theorem aQ5(h:p:=by
 simp[ic,iW,gy]):p:=h
theorem Xe(h:p:=by
 rintro _ _ ⟨rfl,rfl⟩;refine xD ?_;exact xR):p:=h
theorem Wx(h:p:=by
 intro t kk v ht;rw[show(9999:Nat)=9998+1 from rfl,gv];simp[bC ht]):p:=h
theorem aN1(h:p:=by
 rw[if_pos bE]at e0;refine xS ?_;exact out none 70 e0 U U inferInstance):p:=h
theorem aR2(h:p:=by
 exact X.ret hb (.tmps U) ⟨_,.inr ⟨by grind,by rw[e1];rfl,U⟩,aN.nil _⟩):p:=h
theorem aR0(h:p:=by
 exact X.W (pG ⟨j+1,by omega⟩ bE)):p:=h
theorem bu9(h:p:=by
 ·rfl
 ·rfl
 refine xS ?_;exact bO hb (.tmps U) ⟨by simp[lx,tO,h],U⟩):p:=h
theorem bu8(h:p:=by
 refine xS ?_;exact X.W (ih ⟨(i+1,(a5,c5),w),by omega,by grind,hw⟩ bE)):p:=h
theorem bF5(h:p:=by
 exact⟨h1.1.mono av,λe he=>by grind [Zk],λz hz=>by cases hz⟩):p:=h
theorem aJ4(h:p:=by
 rw[ax];omega):p:=h
theorem ZB(h:p:=by
 rintro v B ⟨x,hr,hq⟩;exact h x hr v B hq):p:=h
theorem aL6(h:p:=by
 rcases dx h1 with⟨_,h2,_,h4,_⟩|⟨_,_,_,h3,_⟩;all_goals simp_all):p:=h
theorem aQ7(h:p:=by
 intro h;have e1:(35:UInt8).toNat=35:=U;exact h3 (aa2.1 av)):p:=h
theorem ax8(h:p:=by
 simp[Builtin.delete_,YS,bC ht.out,getObj,fo,hb,hk.check,hf,setObj]):p:=h
theorem bu7(h:p:=by
 rw[<-vy];refine xS ?_;exact X.W (ih ⟨i+1,by omega⟩ gm)):p:=h
theorem Vk(h:p:=by
 rename_i h;rw[h]at ih;simp only[jG,ax,aR]at*;omega):p:=h
theorem bF7(h:p:=by
 split at h
 ·rename_i p hp
  cases h
  have:=Hw f _ _ hp
  grind
 ·cases h):p:=h
theorem aD2(h:p:=by
 cases p
 ·rfl
 ·exact if_pos h1):p:=h
theorem bk8(h:p:=by
 rw[if_neg av]at hE;exact bO hb (.tmps U) ⟨by rw[hE];rfl,U⟩):p:=h
theorem by9(h:p:=by
 rw[iz];exact dp.set tY.symm _ bB av bB):p:=h
theorem bC0(h:p:=by
 exact⟨a.mono (aT _ _),b⟩):p:=h
theorem aK8(h:p:=by
 exact bO hb (.gX U iA (.tmp U (.tmp U .nil))) ⟨U,U⟩):p:=h
theorem bF6(h:p:=by
 have h1:=Qx h.ok;have h2:=h.P;have h3:=h.ok.le;have h4:=h.ok.cap;omega):p:=h
theorem aQ6(h:p:=by
 exact(eu _ _ _).trans (fS _ (eu _ _ _))):p:=h
theorem U9(h:p:=by
 rw[bv8,bv8,wrap_u8 _ (BitVec.isLt _)];rfl):p:=h
theorem aD3(h:p:=by
 refine du (j:=k) U U U U av av (xS ?_);exact hp):p:=h
theorem aO3(h:p:=by
 exact X.W (ih ⟨(i+1,s1),by dsimp only;omega,hS⟩ gm)):p:=h
theorem az8(h:p:=by
 ·exact h.gZ (GQ h.files _ _) _):p:=h
theorem aw1(h:p:=by
 split at e
 ·cases e
 ·rename_i m1 h1;cases e;exact sC hI h h1):p:=h
theorem aO2(h:p:=by
 rw[bD.1 hx];exact⟨⟨h1,h2,kL r' nG⟩,tK r' nG⟩):p:=h
theorem bC7(h:p:=by
 refine xS ?_;exact X.ret hb (.tmps U) ⟨_,bu _ nH,ay⟩):p:=h
theorem ax2(h:p:=by
 have e1:(37:UInt8).toNat=37:=U;exact hc (aa2.1 av)):p:=h
theorem aI6(h:p:=by
 exact⟨lv.refl h,by constructor<;>first|decide|(dsimp only;decide)⟩):p:=h
theorem aM4(h:p:=by
 exact yg hb (.tmps U) ⟨_,⟨ys,yz,a6,c6,U,U⟩,ay⟩):p:=h
theorem aM9(h:p:=by
 show w'.heap[n]?=some z;rw[h4];exact h3):p:=h
theorem aL2(h:p:=by
 refine xS ?_;exact bO hb (.tmps U) ⟨by simp[lx,rz,h],U⟩):p:=h
theorem az5(h:p:=by
 exact bO hb (.tmps U) ⟨U,U⟩):p:=h
theorem aC2(h:p:=by
 refine xS ?_;exact X.W (ih ⟨(i+1,pre,d2),by omega,hw⟩ bE)):p:=h
theorem aQ9(h:p:=by
 rw[show(c.toNat:Int).toNat.toUInt8=c from by simp]at this;exact this):p:=h
theorem aZ9(h:p:=by
 refine xS ?_;exact bO hb (.tmps U) ⟨by rw[hE];rfl,by rw[hE]⟩):p:=h
theorem aM6(h:p:=by
 intro r' nG;exact nG _ _ (fT _ _ _ _ (by simp[Hp.one]))):p:=h
theorem aI8(h:p:=by
 subst hf;refine xS ?_;exact X.W (dW ⟨.nilIface,.inr trivial⟩)):p:=h
theorem bA9(h:p:=by
 have:=(bA.1 hi).2.1;simpa using this):p:=h
theorem aF9(h:p:=by
 cases e:q b' with
 |none=>rfl
 |some z=>have:=Jy (hq _ _ e);omega):p:=h
theorem aw2(h:p:=by
 refine xS ?_;exact X.fin hb (.tmps U) ⟨_,.inl U,ay⟩):p:=h
theorem aB1(h:p:=by
 refine xS ?_;refine aT7 U U U U U (xS ?_);exact hp):p:=h
theorem aE1(h:p:=by
 exact⟨by simp;omega,aj h.names av,h.name⟩):p:=h
theorem aw6(h:p:=by
 rename_i h2;cases h1;exact⟨G6 h h2,Lm _ _⟩):p:=h
theorem aG5(h:p:=by
 exact bO hb (.tmp h1 (.tmp h2 .nil)) ⟨by rw[he];rfl,U⟩):p:=h
theorem aH0(h:p:=by
 ·rintro v B ⟨rfl,rfl⟩;rw[<-e0];refine xD ?_;exact xR):p:=h
theorem aB2(h:p:=by
 rw[aG];have:([61,32]:Bs).length=2:=U;omega):p:=h
theorem aI7(h:p:=by
 refine xS ?_;exact hp):p:=h
theorem aM0(h:p:=by
 refine aM 27 true U bB (xS ?_);exact hp):p:=h
theorem aF7(h:p:=by
 exact yg hb (.tmps U) ⟨_,⟨K,U,U⟩,ay⟩):p:=h
theorem bD6(h:p:=by
 cases ks with
 |nil=>simp[Instr.findNow]
 |cons _ _=>simp at h):p:=h
theorem bB7(h:p:=by
 exact⟨y,h5,y.1.data.length,U,by rw[bh]⟩):p:=h
theorem aN8(h:p:=by
 exact⟨e,uv,fr,r,.of_steps (StepsIn.steps ac1) c,rest⟩):p:=h
theorem Xs(h:p:=by
 exact bO hb (.tmps U) ⟨by rw[<-bu5 _ h1];rfl,U⟩):p:=h
theorem aK0(h:p:=by
 exact X.fin hb (.tmps U) ⟨_,⟨U,U⟩,aN.refl _⟩):p:=h
theorem aE4(h:p:=by
 cases e;have h1:=rN h (sF▸hx);simp[execOp,h1,pure]):p:=h
theorem aN3(h:p:=by
 ·split
  ·grind
  ·exact h.gZ (GQ h.files _ _) _):p:=h
theorem aK7(h:p:=by
 rw[e];cases List.find? (λx=>decide (x.1=name)) fs<;>rfl):p:=h
theorem aF5(h:p:=by
 refine xS ?_;exact bO hb (.tmps U) ⟨a3,c3,U,U⟩):p:=h
theorem aH4(h:p:=by
 refine xS ?_;exact X.W (pG ⟨j+1,by omega⟩ bE)):p:=h
theorem aw0(h:p:=by
 refine aM 16 false U bB  ?_;exact xR):p:=h
theorem bp8(h:p:=by
 exact⟨e,uv,fr,r,.of_steps (StepsIn.steps hs) c,rest⟩):p:=h
theorem bA3(h:p:=by
 have h:¬rz s p=true:=bE;rw[if_neg h];exact xR):p:=h
theorem aa0(h:p:=by
 rintro v B ⟨rfl,rfl⟩;refine xD ?_;exact ll lC):p:=h
theorem aJ5(h:p:=by
 cases e;exact h.mono av):p:=h
theorem bD8(h:p:=by
 have:=B4.length_eq;rw[hkm]at this;simp at this;omega):p:=h
theorem bB2(h:p:=by
 exact(Aj m f _ _ _).trans (uN _ _ _ _ _)):p:=h
theorem bF2(h:p:=by
 simp only[ax,aG];omega):p:=h
theorem a'8(h:p:=by
 rw[XW];exact X.W (ih ⟨i+1,by omega⟩ bE)):p:=h
theorem bB5(h:p:=by
 exact bO hb (.tmps U) ⟨by rw[<-hE];rfl,U⟩):p:=h
theorem bD0(h:p:=by
 show(eJ b at_).2.1+(eJ b at_).2.2<=_;omega):p:=h
theorem bp5(h:p:=by
 exact gI (jD ZR) (hf.ro.mono (.refl _) h2)):p:=h
theorem aB3(h:p:=by
 refine xS ?_;exact X.W (dW ())):p:=h
theorem aI9(h:p:=by
 exact X.W (ih ⟨i+1,by omega,hE⟩ bE)):p:=h
theorem bF3(h:p:=by
 refine du (j:=0) U U U U U av (xS ?_);exact hp):p:=h
theorem av(h:p:=by omega):p:=h
theorem cA(h:p:=by kernel_rfl):p:=h
theorem bE(h:p:=by grind):p:=h
theorem bB(h:p:=by simp;omega):p:=h
theorem iA(h:p:=by rfl):p:=h
theorem de(h:p:=by decide):p:=h
theorem nH(h:p:=by simp):p:=h
theorem gm(h:p:=by dsimp only;omega):p:=h
theorem Ul(h:p:=by constructor<;>first|decide|(dsimp only;decide)):p:=h
theorem bz9(h:p:=by unfold uK labOnwardRow;repeat(first|exact List.mem_cons_self|apply List.mem_cons_of_mem)):p:=h
theorem pH(h:p:=by simp[aX]):p:=h
theorem SZ(h:p:=by first|rfl|assumption):p:=h
theorem Dl(h:p:=by rw[aA,cB];omega):p:=h
theorem IZ(h:p:=by grind [mq.do,mq.tA]):p:=h
theorem BU(h:p:=by simpa using h):p:=h
theorem NS(h:p:=by grind [aY]):p:=h
theorem ua(h:p:=by cases hx):p:=h
theorem FG(h:p:=by simpa using h2):p:=h
theorem aW4(h:p:=by rw[bT];exact hA1.out.trans (mg A hA2.out)):p:=h
theorem Ij(h:p:=by simpa using hi):p:=h
theorem Ic(h:p:=by simpa using h1):p:=h
theorem aY1(h:p:=by apply Array.toList_inj.1;rw[Array.toList_map];exact h1):p:=h
theorem Oc(h:p:=by grind [be.step]):p:=h
theorem al0(h:p:=by grind [lJ,jS,Xb]):p:=h
theorem Va(h:p:=by grind [ByteArray.size]):p:=h
theorem ap5(h:p:=by have:d16.length=16:=rfl;omega):p:=h
theorem KD(h:p:=by simp[aZ]):p:=h
theorem at5(h:p:=by have:=ha.1 k (by simp);omega):p:=h
theorem U8(h:p:=by simp[hy]):p:=h
theorem FQ(h:p:=by rw[l9.fn];exact h1):p:=h
theorem FY(h:p:=by cases w with|nil=>grind|cons _ _=>rfl):p:=h
theorem a08(h:p:=by simp[hx]):p:=h
theorem aZ3(h:p:=by rintro v B ⟨_,rfl⟩;infer_instance):p:=h
theorem aX2(h:p:=by grind [ic,gy]):p:=h
theorem aZ7(h:p:=by decide+kernel):p:=h
theorem aY2(h:p:=by rw[<-rV,j6];exact dp.nd):p:=h
theorem bf6(h:p:=by rw[ht.files.length_eq];exact hl):p:=h
theorem a00(h:p:=by grind [aD]):p:=h
theorem af7(h:p:=by rw[aG,e1,hl,fP];exact ar _):p:=h
theorem JZ(h:p:=by rw[hxq,List.set_getElem_self]):p:=h
theorem VY(h:p:=by show s.used<=_;omega):p:=h
theorem Xw(h:p:=by simp[h2]):p:=h
theorem OR(h:p:=by simpa using h3):p:=h
theorem bi0(h:p:=by simp[Act.eval]):p:=h
theorem ZJ(h:p:=by simp[Yx]):p:=h
theorem bo4(h:p:=by rcases GA hs hf.out with⟨_,h3,h4⟩|⟨_,_,h3⟩<;>omega):p:=h
theorem ao6(h:p:=by have:=hMF.steps;rw[<-hp,aA]at this;omega):p:=h
theorem an6(h:p:=by simp at h5;omega):p:=h
theorem bk7(h:p:=by simp at h1;omega):p:=h
theorem bj2(h:p:=by rw[<-KT];exact(GN hp dp.nd _).symm):p:=h
theorem Rh(h:p:=by have:=congrArg dq h1;simpa using this):p:=h
theorem Rb(h:p:=by simp[hn]):p:=h
theorem SO(h:p:=by simp[hl]):p:=h
theorem Rk(h:p:=by simp[h0]):p:=h
theorem aV5(h:p:=by rw[qL]):p:=h
theorem bo9(h:p:=by simp[ByteArray.size]):p:=h
theorem ae1(h:p:=by grind [dd]):p:=h
theorem bm6(h:p:=by grind [uE]):p:=h
theorem bl4(h:p:=by rw[List.length_eraseIdx_of_lt hi];omega):p:=h
theorem bf0(h:p:=by rintro v B ⟨a,c,rfl,rfl⟩;infer_instance):p:=h
theorem bf1(h:p:=by rcases hf.ro b with h|h;all_goals grind):p:=h
theorem aX3(h:p:=by rcases hf.of b with h|h;all_goals grind):p:=h
theorem aV6(h:p:=by show _<=s.used;omega):p:=h
theorem bh7(h:p:=by have:=T'.out;grind):p:=h
theorem bm4(h:p:=by grind [qt,je,eE]):p:=h
theorem bl5(h:p:=by rw[<-GN hp dp.nd,KT,Uj]):p:=h
theorem bm9(h:p:=by rw[<-D7,cP]):p:=h
theorem bp3(h:p:=by rw[jh,aA];omega):p:=h
theorem aZ8(h:p:=by grind [jT]):p:=h
theorem bf2(h:p:=by rcases hd b with h|h;all_goals grind):p:=h
theorem bi2(h:p:=by have:=congrArg dq hq;grind):p:=h
theorem bf7(h:p:=by have:=congrArg dq h1;grind):p:=h
theorem aX1(h:p:=by grind [rV]):p:=h
theorem aV9(h:p:=by grind [beq_false]):p:=h
end
namespace Go.Sl
section
variable(P:Program)(w:World)
theorem M1(w':World)(at_:Addr)(u:TypeId)(k:Addr)(v:Value)(atomic:Bool)(l:List Addr)(h:w.viewStore P at_ u k v atomic=.ok (w',l)):w.drawn<=w'.drawn:=by
 unfold World.viewStore at h;simp only[bind,Except.bind,pure,Except.pure,throw,throwThe,MonadExceptOf.throw]at h;by_cases ht:(!tight P P.depth u)=true
 ·simp only[ht,if_true]at h;cases h
 ·simp only[ht,if_false,bY]at h;cases hs:w.seen P at_ u k atomic with
  |error e=>grind
  |ok x=>
   rw[hs]at h;obtain⟨c,e,fr,first,like,cells⟩:=x;dsimp only at h;cases hb:v.bytes? with
   |none=>simp_all
   |some bytes=>
    grind
def Result.world{α:Type}:Result α->World
 |.ok _ w=>w
 |.halt _ w=>w
theorem Q5(w':World)(a:Addr)(v:Value)(b:Bool)(l:List Addr)(h:w.farStore P a v b=.ok (w',l)):w.drawn<=w'.drawn:=by
 unfold World.farStore at h;split at h
 ·split at h
  ·rename_i r hr;obtain⟨w2,l2⟩:=r;simp only[Except.ok.injEq,Prod.mk.injEq]at h;obtain⟨rfl,rfl⟩:=h;exact M1 _ _ _ _ _ _ _ _ _ hr
  ·cases h
 ·cases h
theorem zT{α:Type}:∀(a:Ask α) (w:World),w.drawn<=(w.ask a).2.drawn
 |.done _,w=>ar _
 |.ask what range k,w=>by
  simp only[World.ask];split
  ·exact zT (k 0) w
  ·exact aj (gk _) (zT (k _) {w with drawn:=w.drawn+1})
theorem Q6(c:Sys):w.drawn<=(w.sys c).2.drawn:=by
 grind [zT,World.sys]
theorem im{α:Type}(P:Program):∀(s:Sem α) (w:World),w.drawn<=(Result.world (s.run P w)).drawn
 |.pure _,w=>ar _
 |.load m a k,w=>by
  rw[fo];split
  ·exact im P (k _) w
  ·split
   ·exact im P (k _) w
   ·exact ar _
 |.store m a v k,w=>by
  have h1:∀w2:World,w2.drawn=w.drawn->w.drawn<=(Result.world (k.run P w2)).drawn:=λw2 h=>h▸im P k w2;have h2:∀w2:World,w.drawn<=w2.drawn->w.drawn<=(Result.world (k.run P w2)).drawn:=λw2 h=>aj h (im P k w2);by_cases hv:(∃l,v=.agg l)\/∃l,v=.tuple l
  ·rcases hv with⟨l,rfl⟩|⟨l,rfl⟩<;>(rw[fo];exact ar _)
  ·rw[fo]
   ·split
    ·split
     ·exact ar _
     ·exact h1 _ U
    ·split
     ·grind [Q5]
     ·exact ar _
   all_goals grind
 |.new o k,w=>by rw[fo];exact im P (k _) {w with heap:=w.heap.push o}
 |.shape r k,w=>by rw[fo];exact im P (k _) w
 |.freeze a n k,w=>by
  rw[fo];refine aj ?_ (im P k _);unfold World.freeze;split<;>exact ar _
 |.frozen a k,w=>by rw[fo];exact im P (k _) w
 |.getObj r k,w=>by
  rw[fo];split
  ·exact ar _
  ·exact im P (k _) w
  ·exact ar _
 |.setObj r o k,w=>by
  rw[fo];split
  ·exact ar _
  ·exact im P k {w with heap:=w.heap.setIfInBounds r o}
  ·exact ar _
 |.choose q k,w=>by
  rw[fo];split
  ·exact im P (k 0) w
  ·exact aj (gk _) (im P (k _) {w with drawn:=w.drawn+1})
 |.sys c k,w=>by
  rw[fo];exact aj (Q6 w c) (im P (k _) _)
 |.program k,w=>by rw[fo];exact im P (k P) w
 |.mark _ k,w=>by rw[fo];exact im P k w
 |.halt h,w=>ar _
theorem U2{α:Type}{P:Program}{s:Sem α}{w w':World}{a:α}(h:s.run P w=.ok a w'):w.drawn<=w'.drawn:=by
 have:=im P s w;rw[h]at this;exact this
end
section
variable{w:World}{b:Nat}{x:Obj}{q:Bool}
abbrev Hp:=Nat->Option Obj
def Hp.le(a b:Hp):Prop:=∀n o,a n=some o->b n=some o
def lA(a b:Hp):Prop:=∀n,a n=none\/b n=none
def kN(a b:Hp):Hp:=λn=>match a n with|some o=>some o|none=>b n
def fL:Hp:=λ_=>none
def Hp.one(k:Nat)(o:Obj):Hp:=λn=>if n=k then some o else none
def hp(w:World):Hp:=λn=>w.heap[n]?
theorem Hp.le.refl(a:Hp):Hp.le a a:=λ_ _ h=>h
theorem Hp.le.trans{a b c:Hp}(h:Hp.le a b)(k:Hp.le b c):Hp.le a c:=λn o e=>k n o (h n o e)
theorem cJ(a:Hp):Hp.le fL a:=λ_ _ h=>by cases h
theorem cR(a:Hp):lA fL a:=λ_=>.inl U
theorem lA.symm{a b:Hp}(h:lA a b):lA b a:=λn=>(h n).symm
theorem lA.mono{a b a' b':Hp}(h:lA a b)(ha:Hp.le a' a)(hb:Hp.le b' b):lA a' b':=by
 intro n;rcases h n with h|h
 ·left;cases e:a' n with
  |none=>rfl
  |some o=>rw[ha n o e]at h;cases h
 ·right;cases e:b' n with
  |none=>rfl
  |some o=>rw[hb n o e]at h;cases h
theorem fT(a b:Hp):Hp.le a (kN a b):=λn o h=>by simp[kN,h]
theorem fh{a b:Hp}(hd:lA a b):Hp.le b (kN a b):=λn o h=>by
 rcases hd n with h'|h';all_goals grind [kN]
theorem kM{a b c:Hp}(h:Hp.le a c)(k:Hp.le b c):Hp.le (kN a b) c:=λn o e=>by
 unfold kN at e;split at e
 ·rename_i x hx;cases e;exact h n _ hx
 ·exact k n o e
theorem gI{a b c:Hp}(h:lA a c)(k:lA b c):lA (kN a b) c:=by
 intro n
 rcases h n with h|h
 ·rcases k n with k|k;all_goals grind [kN]
 grind
structure az where
 h:Hp->Hp->Prop
 mono:∀{r r' o o'},Hp.le r r'->Hp.le o o'->h r o->h r' o'
def nK:List az->Hp->Hp->Prop
 |[],_,_=>True
 |p::ps,r,o=>∃o1 o2,lA o1 o2/\Hp.le o1 o/\Hp.le o2 o/\p.h r o1/\nK ps r o2
theorem js:∀(l:List az) {r r' o o'},Hp.le r r'->Hp.le o o'->nK l r o->nK l r' o'
 |[],_,_,_,_,_,_,_=>trivial
 |p::ps,_,_,_,_,hr,ho,⟨o1,o2,hd,h1,h2,hp,hs⟩=>
  ⟨o1,o2,hd,h1.trans ho,h2.trans ho,p.mono hr (.refl _) hp,js ps hr (.refl _) hs⟩
def aN(Hs Hs':List az):Prop:=∀r o,nK Hs r o->nK Hs' r o
theorem aN.refl(Hs:List az):aN Hs Hs:=λ_ _ h=>h
theorem aN.trans{a b c:List az}(h:aN a b)(k:aN b c):aN a c:=λr o e=>k r o (h r o e)
theorem aN.cons{a b:List az}(p:az)(h:aN a b):aN (p::a) (p::b):=
 λ_ _ ⟨o1,o2,hd,h1,h2,hp,hs⟩=>⟨o1,o2,hd,h1,h2,hp,h _ _ hs⟩
theorem cQ(p q:az)(a:List az):aN (p::q::a) (q::p::a):=by
 rintro r o ⟨o1,o2,hd,h1,h2,hp,o3,o4,hd',h3,h4,hq,hs⟩;refine⟨o3,kN o1 o4,?_,h3.trans h2,kM h1 (h4.trans h2),hq,o1,o4,hd.mono (.refl _) h4,fT _ _,?_,hp,hs⟩
 ·exact(gI (hd.mono (.refl _) h3) hd'.symm).symm
 ·exact fh (hd.mono (.refl _) h4)
theorem aN.drop(p:az)(a:List az):aN (p::a) a:=
 λ_ _ ⟨_,_,_,_,h2,_,hs⟩=>js a (.refl _) h2 hs
theorem jJ{a b:List az}{r o:Hp}:nK (a++b) r o↔∃o1 o2,lA o1 o2/\Hp.le o1 o/\Hp.le o2 o/\nK a r o1/\nK b r o2:=by
 induction a generalizing o with
 |nil=>
  constructor
  ·intro h;exact⟨fL,o,cR _,cJ _,.refl _,trivial,h⟩
  ·rintro⟨o1,o2,_,_,h2,_,h⟩;exact js b (.refl _) h2 h
 |cons p ps ih=>
  constructor
  ·rintro⟨o1,o2,hd,h1,h2,hp,hs⟩;obtain⟨o3,o4,hd',h3,h4,hs3,hs4⟩:=ih.1 hs;refine⟨kN o1 o3,o4,gI (hd.mono (.refl _) h4) hd',kM h1 (h3.trans h2),h4.trans h2,⟨o1,o3,hd.mono (.refl _) h3,fT _ _,?_,hp,hs3⟩,hs4⟩;exact fh (hd.mono (.refl _) h3)
  ·rintro⟨o1,o2,hd,h1,h2,⟨o3,o4,hd',h3,h4,hp,hs3⟩,hs4⟩;refine⟨o3,kN o4 o2,?_,h3.trans h1,kM (h4.trans h1) h2,hp,?_⟩
   ·exact(gI hd'.symm (hd.mono h3 (.refl _)).symm).symm
   ·exact ih.2 ⟨o4,o2,hd.mono h4 (.refl _),fT _ _,fh (hd.mono h4 (.refl _)),hs3,hs4⟩
def pt(b:Nat)(x:Obj):az:=⟨λ_ o=>o b=some x,λ_ ho h=>ho _ _ h⟩
def ro(p:Hp->Prop):az:=⟨λr _=>∀r',Hp.le r r'->p r',λhr _ h r' nG=>h r' (hr.trans nG)⟩
structure Fits(w:World)(r₁ o₁ f₁:Hp):Prop where
 r:Hp.le r₁ (hp w)
 o:Hp.le o₁ (hp w)
 f:Hp.le f₁ (hp w)
 ro:lA r₁ o₁
 rf:lA r₁ f₁
 of:lA o₁ f₁
structure bS where
 w:World
 r:Hp
 f:Hp
 q:Bool
def bS.le(β β':bS):Prop:=Hp.le β.r β'.r/\β'.q=β.q
def wH(q:Bool)(w w':World):Prop:=w'.os=w.os/\w'.tape=w.tape/\w'.output=w.output/\w.heap.size<=w'.heap.size/\(q=true->w.drawn<=w'.drawn)
theorem wH.refl(w:World):wH q w w:=⟨U,U,U,ar _,λ_=>ar _⟩
theorem wH.trans{a b c:World}(h:wH q a b)(k:wH q b c):wH q a c:=⟨k.1.trans h.1,k.2.1.trans h.2.1,k.2.2.1.trans h.2.2.1,aj h.2.2.2.1 k.2.2.2.1,λhq=>aj (h.2.2.2.2 hq) (k.2.2.2.2 hq)⟩
theorem wH.of{a b:World}(h:wH true a b):wH q a b:=⟨h.1,h.2.1,h.2.2.1,h.2.2.2.1,λ_=>h.2.2.2.2 U⟩
def Sat(β:bS)(Hs:List az)(w:World):Prop:=
 ∃r o,Hp.le β.r r/\Fits w r o β.f/\nK Hs r o/\wH β.q β.w w
theorem Sat.cd{β:bS}{Hs Hs':List az}(h:Sat β Hs w)(k:aN Hs Hs'):Sat β Hs' w:=
 let⟨r,o,h1,h2,h3,h4⟩:=h;⟨r,o,h1,h2,k r o h3,h4⟩
theorem Jy(h:hp w b=some x):b<w.heap.size:=
 (dT.1 h).1
theorem dS{β:bS}{Hs:List az}(h:Sat β (pt b x::Hs) w):w.heap[b]?=some x:=by
 obtain⟨r,o,_,hf,⟨o1,o2,_,h1,_,hp,_⟩,_⟩:=h;exact hf.o _ _ (h1 _ _ hp)
theorem Sat.ro{β:bS}{Hs:List az}{p:Hp->Prop}(h:Sat β (ro p::Hs) w):p (hp w):=by
 obtain⟨r,o,_,hf,⟨o1,o2,_,h1,_,hp,_⟩,_⟩:=h;exact hp _ hf.r
theorem Sat.heap{β:bS}{Hs:List az}{w':World}(h:Sat β Hs w)(e:w'.heap=w.heap)(h1:w'.os=w.os)(h2:w'.tape=w.tape)(h3:w'.output=w.output)(h4:w.drawn<=w'.drawn):Sat β Hs w':=by
 obtain⟨r,o,h0,hf,hs,pf⟩:=h;have eh:hp w'=hp w:=by grind [hp]
 refine⟨r,o,h0,⟨eh▸hf.r,eh▸hf.o,eh▸hf.f,hf.ro,hf.rf,hf.of⟩,hs,pf.trans ⟨h1,h2,h3,by grind,λ_=>h4⟩⟩
theorem Sat.alloc{β:bS}{Hs:List az}(h:Sat β Hs w)(x:Obj):
 Sat β (Sl.pt w.heap.size x::Hs) {w with heap:=w.heap.push x}:=by
 obtain⟨r,o,h0,hf,hs,pf⟩:=h
 have hle:Hp.le (hp w) (hp {w with heap:=w.heap.push x}):=by
  intro n y hn
  grind [hp]
 have tF:∀{q:Hp},Hp.le q (hp w)->q w.heap.size=none:=by
  intro q hq;cases e:q w.heap.size with
  |none=>rfl
  |some y=>have:=Jy (hq _ _ e);omega
 have hdj:∀{q:Hp},Hp.le q (hp w)->lA (Hp.one w.heap.size x) q:=by
  intro q hq n
  grind [Hp.one]
 have jD:Hp.le (Hp.one w.heap.size x) (hp {w with heap:=w.heap.push x}):=by
  intro n y hn
  grind [Hp.one,hp]
 refine⟨r,kN (Hp.one w.heap.size x) o,h0,⟨hf.r.trans hle,kM jD (hf.o.trans hle),hf.f.trans hle,?_,hf.rf,?_⟩,?_,?_⟩
 ·exact(gI (hdj hf.r) hf.ro.symm).symm
 ·exact gI (hdj hf.f) hf.of
 ·exact⟨Hp.one w.heap.size x,o,hdj hf.o,fT _ _,fh (hdj hf.o),by show Hp.one _ _ _=_;simp[Hp.one],hs⟩
 ·exact pf.trans ⟨U,U,U,by simp,λ_=>ar _⟩
theorem Sat.put{β:bS}{Hs:List az}{w':World}{y:Obj}(h:Sat β (Sl.pt b x::Hs) w)(hs:wH true w w')(hb:w'.heap[b]?=some y)(ho:∀n,n≠b->w.heap[n]?.isSome->w'.heap[n]?=w.heap[n]?):Sat β (Sl.pt b y::Hs) w':=by
 obtain⟨r,o,h0,hf,⟨o1,o2,hd,h1,h2,kL,iz⟩,pf⟩:=h
 have M3:o1 b=some x:=kL
 have hob:o b=some x:=h1 _ _ M3
 have hle:∀{q:Hp},Hp.le q (hp w)->q b=none->Hp.le q (hp w'):=by
  intro q hq hqb n z hn
  by_cases e:n=b
  ·grind
  ·have:=hq _ _ hn
   grind [hp]
 have jD:∀{q:Hp},q b=none->lA (Hp.one b y) q:=by
  intro q hq n
  grind [Hp.one]
 have Jz:Hp.le (Hp.one b y) (hp w'):=aD5
 have hr:r b=none:=by rcases hf.ro b with h|h;all_goals grind
 have PA:β.f b=none:=by rcases hf.of b with h|h;all_goals grind
 have ZR:o2 b=none:=by rcases hd b with h|h;all_goals grind
 have ho2:Hp.le o2 (hp w):=h2.trans hf.o
 refine⟨r,kN (Hp.one b y) o2,h0,⟨hle hf.r hr,kM Jz (hle ho2 ZR),hle hf.f PA,?_,hf.rf,?_⟩,?_,pf.trans hs.of⟩
 ·exact(gI (jD hr) (hf.ro.mono (.refl _) h2).symm).symm
 ·exact gI (jD PA) (hf.of.mono h2 (.refl _))
 ·exact⟨Hp.one b y,o2,jD ZR,fT _ _,fh (jD ZR),by show Hp.one _ _ _=_;simp[Hp.one],iz⟩
theorem Sat.freeze{β:bS}{Hs:List az}(h:Sat β (Sl.pt b x::Hs) w):
 Sat β (Sl.ro (λr=>r b=some x)::Hs) w:=by
 obtain⟨r,o,h0,hf,⟨o1,o2,hd,h1,h2,kL,iz⟩,pf⟩:=h
 have M3:o1 b=some x:=kL
 have hob:o b=some x:=h1 _ _ M3
 have hr:r b=none:=bf1
 have PA:β.f b=none:=aX3
 have ZR:o2 b=none:=bf2
 have jD:∀{q:Hp},q b=none->lA (Hp.one b x) q:=by
  intro q hq n
  grind [Hp.one]
 have hole:Hp.le (Hp.one b x) (hp w):=bp4
 have Q7:Hp.le r (kN (Hp.one b x) r):=fh (jD hr)
 refine⟨kN (Hp.one b x) r,o2,h0.trans Q7,⟨kM hole hf.r,h2.trans hf.o,hf.f,?_,?_,hf.of.mono h2 (.refl _)⟩,?_,pf⟩
 ·exact bp5
 ·exact gI (jD PA) hf.rf
 ·refine⟨fL,o2,cR _,cJ _,.refl _,?_,js Hs Q7 (.refl _) iz⟩;exact aM6
theorem jH{β:bS}{A F:List az}(h:Sat β (A++F) w):
 ∃β':bS,β.le β'/\Sat β' A w/\∀B w',Sat β' B w'->Sat β (B++F) w':=by
 obtain⟨r,o,h0,hf,iz,pf⟩:=h
 obtain⟨o1,o2,hd,h1,h2,hA,hF⟩:=jJ.1 iz
 refine⟨⟨w,r,kN o2 β.f,β.q⟩,⟨h0,U⟩,⟨r,o1,.refl _,⟨hf.r,h1.trans hf.o,kM (h2.trans hf.o) hf.f,hf.ro.mono (.refl _) h1,?_,?_⟩,hA,.refl _⟩,?_⟩
 ·exact(gI (hf.ro.mono (.refl _) h2).symm hf.rf.symm).symm
 ·exact(gI hd.symm (hf.of.mono h1 (.refl _)).symm).symm
 ·rintro B w' ⟨r',o',nG,T9,hB,hsm'⟩;have Fy:lA o2 β.f:=hf.of.mono h2 (.refl _);have l2:Hp.le o2 (kN o2 β.f):=fT _ _;have lf:Hp.le β.f (kN o2 β.f):=fh Fy;refine⟨r',kN o' o2,h0.trans nG,⟨T9.r,kM T9.o (l2.trans T9.f),lf.trans T9.f,?_,T9.rf.mono (.refl _) lf,?_⟩,?_,pf.trans hsm'⟩
  ·exact(gI T9.ro.symm (T9.rf.mono (.refl _) l2).symm).symm
  ·exact gI (T9.of.mono (.refl _) lf) Fy
  ·exact jJ.2 ⟨o',o2,T9.of.mono (.refl _) l2,fT _ _,fh (T9.of.mono (.refl _) l2),hB,js F nG (.refl _) hF⟩
end
section
variable{P:Program}{R R':Ending->World->Prop}{Q:Exit->Act->World->Prop}{args:Array Value}{w w':World}{a:Act}{b:Frame}{v:Value}{f:FuncId}{ops:Array Oper}{c x y:Code}{fn:Func}{ρ:Operand->Value}{cs:List Frame}{o:Oper}{k':List Item}{e:Ending}{t:Nat}{β:bS}(ro:Option Nat)
@[reducible] def Fw(ro:Option Nat):Fence:={fn:=λ_=>True,depth:=none,alive:=false,round:=ro}
def CY(P:Program)(b:Frame)(cs:List Frame)(e:Ending)(w':World)(m':Machine):Prop:=
 match b.roundOf with
 |none=>∃fr,m'=lone fr cs w'/\fr.fn=b.fn/\fr.leaving P w' e
 |some _=>∃c JA,cs=c::JA/\m'=(match e with
  |.returned v=>lone (c.finish v) JA w'
  |.panicked ch=>lone (c.raise ch) JA w'
  |.outgrown=>lone c JA w')
theorem CY.mk{fr:Frame}(hr:b.roundOf=none)(h1:fr.fn=b.fn)(h2:fr.leaving P w' e):CY P b cs e w' (lone fr cs w'):=by
 grind [CY]
theorem CY.get{m':Machine}(h:CY P b cs e w' m')(hr:b.roundOf=none):∃fr,m'=lone fr cs w'/\fr.fn=b.fn/\fr.leaving P w' e:=by
 grind [CY]
def vU(P:Program)(b:Frame)(k:List Item)(a:Act)(w:World)(R:Ending->World->Prop):Prop:=
 ∀cs,(b.roundOf.isSome=true->cs≠[])->∃e w' m',R e w'/\Comes P (lone (b.atR a k) cs w) m' e/\CY P b cs e w' m'
def Vm(P:Program)(b:Frame)(m:FrameMode)(a:Act)(w:World)(R:Ending->World->Prop):Prop:=
 ∀todo cs,(b.roundOf.isSome=true->cs≠[])->∃e w' m',R e w'/\Comes P (lone {b.atR a todo with mode:=m} cs w) m' e/\CY P b cs e w' m'
theorem vU.step{k:List Item}{a':Act}(h:∀cs,step P (lone (b.atR a k) cs w)=.next (lone (b.atR a' k') cs w'))(hr:vU P b k' a' w' R):vU P b k a w R:=
 λcs sD=>let⟨e,uv,m',r,c,rest⟩:=hr cs sD;⟨e,uv,m',r,.of_steps (.one (h cs)) c,rest⟩
theorem vU.mono{k:List Item}(h:∀e w,R e w->R' e w)(hr:vU P b k a w R):vU P b k a w R':=
 λcs sD=>let⟨e,uv,m',r,rest⟩:=hr cs sD;⟨e,uv,m',h _ _ r,rest⟩
theorem Fw.room(n:Nat):(Fw ro).room n:=λd hd=>by cases hd
theorem vU.of_wp{k:List Item}(h:c.wpIn (Fw b.roundOf) 0 P Q a w)(hn:∀a w,Q .normal a w->vU P b k a w R)(hp:∀ch a w,Q (.panic ch) a w->Vm P b (.panicking ch) a w R)(ho:∀a w,¬Q .outgrown a w)(hx:∀i a w,¬Q (.exit i) a w)(hg:∀i a w,¬Q (.goto i) a w)(ht:∀a w,¬Q .ret a w):
 vU P b (.code c::k) a w R:=by
 intro cs sD
 obtain⟨e,a',w',hq,ac1⟩:=h b k cs U trivial (Fw.room _ _)
 cases e with
 |normal=>
  obtain⟨e,uv,fr,r,c,rest⟩:=hn a' w' hq cs sD;exact aN8
 |exit i=>grind
 |goto i=>grind
 |ret=>grind
 |panic ch=>
  obtain⟨todo,hs⟩:=ac1;obtain⟨e,uv,fr,r,c,rest⟩:=hp ch a' w' hq todo cs sD;exact bp8
 |outgrown=>
  grind
theorem Fs(hf:P.funcs[f]?=some fn)(hb:fn.body=some c)(h:∀b:Frame,b.fn=f->b.roundOf=none->b.kind=.normal->vU P b [.code c] {tmps:=args++Array.replicate (fn.ntmps - args.size) undef,defers:=[]} w R):
 Calls P f args w R:=by
 intro cs
 obtain⟨e,w',m',r,hc,dW⟩:=h {(default:Frame)with fn:=f,kind:=.normal,roundOf:=none} U U U cs nH
 obtain⟨fr,rfl,h1,h2⟩:=dW.get U
 grind [Frame.enter,Frame.atR]
theorem CZ{n:Next}(h:(execOp ρ o).run P w=.ok n w')(hn:∀d,n≠.defer d):(o.semAt ro ρ).run P w=.ok n w':=by
 by_cases hd:∃c,o.op=.defer c
 ·obtain⟨c,hc⟩:=hd;obtain⟨dst,op,type,pos,after,guard⟩:=o;dsimp only at hc;subst hc;simp only[execOp,aU]at h;cases hr:(resolve ρ c type).run P w<;>grind [ig,bN]
 grind [Oper.semAt_eq]
theorem M4{x:Halt}(h:(execOp ρ o).run P w=.halt x w'):(o.semAt ro ρ).run P w=.halt x w':=by
 by_cases hd:∃c,o.op=.defer c
 ·obtain⟨c,hc⟩:=hd;obtain⟨dst,op,type,pos,after,guard⟩:=o;dsimp only at hc;subst hc;simp only[execOp,aU]at h;cases hr:(resolve ρ c type).run P w with
  |ok d w1=>simp_all
  |halt x' w1=>
   rw[hr]at h;simp only[ig,Result.halt.injEq]at h;obtain⟨rfl,rfl⟩:=h;cases ro with
   |none=>simp[Oper.semAt,execOp,aU,hr,ig]
   |some l=>simp[Oper.semAt,aU,hr,ig]
 grind [Oper.semAt_eq]
theorem uw(h:Calls P f args w R):CallsIn (Fw ro) 0 P f args w R:=
 (callsIn_wide (n:=0)).2 h
def Bf:List Oper->Bool
 |[]=>true
 |⟨_,.defer _,_,_,_,_⟩::_=>false
 |_::r=>Bf r
theorem JB:∀{l:List Oper},Bf l=true->∀o∈l,∀c,o.op≠.defer c
 |[],_,o,ho,c,hc=>by cases ho
 |⟨d,op,t,p,a,g⟩::r,h,o,ho,c,hc=>by
  have hr:Bf r=true:=by
   cases op<;>first|exact h|(simp[Bf]at h)
  rcases bK.1 ho with rfl|ho
  ·dsimp only at hc;subst hc;simp[Bf]at h
  ·exact JB hr o ho c hc
theorem MZ{K:Act->World->Prop}(hd:∀c,o.op≠.defer c)(h:o.wp P a w K Q):o.wpIn (Fw ro) 0 P a w K Q:=by
 refine⟨λ_ _=>trivial,?_⟩;rw[Oper.semAt_eq _ _ _ hd];unfold Oper.wp at h;generalize(execOp a.eval o).run P w=r at h;cases r with
 |ok n w'=>
  cases n with
  |value v=>exact h
  |skip=>exact h
  |defer d=>exact h
  |enter f args=>exact⟨bE,uw ro h⟩
  |row r args=>exact⟨bE,λc cs _=>let⟨v,w',h1,h2⟩:=h c cs;⟨v,w',h1,(stepsIn_wide (P:=P)).2 h2⟩⟩
  |_=>exact h.elim
 |halt x w'=>cases x<;>first|exact h|exact h.elim
theorem beq_false{m:Nat}(e:¬m=t):dB m t=false:=by
 grind [eG]
def lk:List (Nat×Value)->Nat->Option Value
 |[],_=>none
 |(t,v)::r,k=>bif dB t k then some v else lk r k
structure Env where
 n:Nat
 vs:List (Nat×Value)
 ds:List Deferred
def fU(E:Env)(a:Act):Prop:=a.tmps.size=E.n/\a.defers=E.ds/\∀t v,lk E.vs t=some v->a.tmps[t]?=some v
@[reducible] def Env.put(E:Env)(d:Nat)(v:Value):Env:={E with vs:=(d,v)::E.vs}
theorem fU.put{E:Env}(h:fU E a){d:Nat}(hd:aH d E.n=true)(v:Value):fU (E.put d v) (a.put (some d) v):=by
 have hd:d<E.n:=aI hd
 obtain⟨h1,h2,h3⟩:=h
 refine⟨by simp[Act.put,h1],h2,?_⟩
 intro t u hu
 simp only[lk]at hu
 by_cases e:d=t
 ·subst e
  simp at hu
  grind [Act.put]
 grind [beq_false,Act.put]
theorem fU.less{E E':Env}(h:fU E a)(hn:E'.n=E.n)(hd:E'.ds=E.ds)(hv:∀t v,lk E'.vs t=some v->lk E.vs t=some v):fU E' a:=
 ⟨hn▸h.1,hd▸h.2.1,λt v e=>h.2.2 t v (hv t v e)⟩
theorem Jp{E:Env}(h:fU E a)(d:Nat)(hd:lk E.vs d=some v):fU (E.put d v) a:=by
 refine⟨h.1,h.2.1,?_⟩;intro t u hu;simp only[lk]at hu;by_cases e:d=t
 ·subst e;simp at hu;rw[<-hu];exact h.2.2 d v hd
 ·rw[beq_false e]at hu;exact h.2.2 t u hu
def Sub(l m:List (Nat×Value)):Prop:=∀t v,lk l t=some v->lk m t=some v
theorem Sub.nil(m:List (Nat×Value)):Sub [] m:=λ_ _ h=>by cases h
theorem Sub.cons{l m:List (Nat×Value)}(h:lk m t=some v)(k:Sub l m):Sub ((t,v)::l) m:=by
 intro t' v' e;simp only[lk]at e;by_cases hb:dB t t'=true
 ·simp_all
 ·simp only[Bool.not_eq_true]at hb;rw[hb]at e;exact k t' v' e
def ev(E:Env):Operand->Option Value
 |.tmp t=>lk E.vs t
 |.const v=>some v
 |.global g=>some (.pointer (some ⟨g,0,none⟩))
 |.func f=>some (.func (.func f) #[] #[])
theorem rN{E:Env}(h:fU E a){x:Operand}(e:ev E x=some v):a.eval x=v:=by
 cases x with
 |tmp t=>
  have:=h.2.2 t v e;show a.tmps.getD t undef=v;simp_all
 |const v=>cases e;rfl
 |global g=>cases e;rfl
 |func f=>cases e;rfl
def ux(β:bS)(R:Ending->List az->Prop)(e:Ending)(w:World):Prop:=∃B,R e B/\Sat β B w
structure bZ where
 p:Hp->Prop
 bf3:∀{r r'},Hp.le r r'->p r->p r'
 q:Bool
def bZ.on(G:bZ)(β:bS):Prop:=G.p β.r/\(β.q=true->G.q=true)
theorem bZ.mono(G:bZ){β':bS}(h:β.le β')(hG:G.on β):G.on β':=⟨G.bf3 h.1 hG.1,λhq=>hG.2 (h.2▸hq)⟩
def TR(P:Program)(G:bZ)(f:FuncId)(args:Array Value)(A:List az)(R:Ending->List az->Prop):Prop:=
 ∀(β:bS) (w:World),G.on β->Sat β A w->Calls P f args w (ux β R)
def SR(P:Program)(b:Frame)(β:bS)(k:List Item)(E:Env)(Hs:List az)(R:Ending->List az->Prop):Prop:=
 ∀a w,fU E a->Sat β Hs w->vU P b k a w (ux β R)
def late(T:Nat->Bool)(ops:Array Oper)(j:Nat):Bool:=
 (List.range ops.size).all λi=> !T i||i==j||match ops[j]? with
  |some oj=>oj.after.any λe=>Region.binds .any e&&e.on==i
  |none=>false
def ql(P:Program)(ops:Array Oper)(Q:Exit->Act->World->Prop)(T:Nat->Bool)(S:World->Prop):Nat->Array Bool->Act->World->Prop
 |0,listed,a,w=>Region.ready .any ops listed=[]/\Q .normal a w
 |fuel+1,listed,a,w=>
  (Region.ready .any ops listed=[]->Q .normal a w)/\
  ∀i∈Region.ready .any ops listed,wpOp P ops Q i (λa' w'=>(late T ops i=true\/S w')/\ql P ops Q T S fuel (listed.setIfInBounds i true) a' w') a w
theorem C0{P:Program}{ops:Array Oper}{Q:Exit->Act->World->Prop}{T:Nat->Bool}{S:World->Prop}:∀(fuel:Nat) (listed:Array Bool) (a:Act) (w:World),ql P ops Q T S fuel listed a w->wpAny P .any ops Q fuel listed a w
 |0,_,_,_,h=>h
 |fuel+1,_,_,_,h=>⟨h.1,λi hi=>wpOp_mono (λa' w' h'=>C0 fuel _ a' w' h'.2) (h.2 i hi)⟩
theorem Q8{T:Nat->Bool}{i j:Nat}{oj:Oper}(h:late T ops j=true)(hT:T i=true)(hi:i<ops.size)(me:j≠i)(hj:ops[j]?=some oj)(hno:∀e∈oj.after,Region.binds .any e=true->e.on≠i):False:=by
 have:=(ef.1 h) i (List.mem_range.2 hi)
 grind
theorem HQ{T:Nat->Bool}{S:World->Prop}{i:Nat}{oi:Oper}(hi:ops[i]?=some oi)(hT:T i=true)(M5:∀(j:Nat) (o:Oper) cs b,ops[j]?=some o->o.op≠.select cs b)(hQ:∀c a w,Q (.panic c) (a.put oi.dst v) w->Q (.panic c) a w):
 ∀(fuel:Nat) (listed:Array Bool) (a:Act) (w:World),
  (∀j oj,ops[j]?=some oj->j≠i->listed.getD j true=false->(∀e∈oj.after,Region.binds .any e=true->e.on≠i)->oi.apart ops oj=true)->
  i∈Region.ready .any ops listed->YieldsIf P ops S oi v a->S w->
  ql P ops Q T S fuel (listed.setIfInBounds i true) (a.put oi.dst v) w->ql P ops Q T S (fuel+1) listed a w:=by
 have tV:i<ops.size:=(dT.1 hi).1
 intro fuel
 induction fuel with
 |zero=>
  intro listed a w _ hr hy hS H;refine⟨λh=>bE,λj hj=>?_⟩;by_cases U4:j=i
  ·subst U4;exact hy.wpOp hi hS ⟨.inr hS,H⟩
  ·have:=ready_mono hj U4;rw[H.1]at this;cases this
 |succ fuel ih=>
  intro listed a w aw4 hr hy hS H;refine⟨λh=>bE,λj hj=>?_⟩;by_cases U4:j=i
  ·subst U4;exact hy.wpOp hi hS ⟨.inr hS,H⟩
  ·have h1:=H.2 j (ready_mono hj U4);obtain⟨hjun,oj,hoj,sE⟩:=mem_ready.1 hj;have hun0:=(mem_ready.1 hr).1;have hnot:∀e∈oj.after,Region.binds .any e=true->e.on≠i:=bE;have h2:=wpOp_putIf hoj (aw4 j oj hoj U4 hjun hnot) (λcs b=>M5 i oi cs b hi) (λcs b=>M5 j oj cs b hoj) hQ hy h1;have hfree':∀k ok,ops[k]?=some ok->k≠i->(listed.setIfInBounds j true).getD k true=false->
    (∀e∈ok.after,Region.binds .any e=true->e.on≠i)->oi.apart ops ok=true:=λk ok hk hki hun hno=>by
    refine aw4 k ok hk hki ?_ hno
    by_cases hjk:j=k
    all_goals simp_all
   have hcomm:(listed.setIfInBounds j true).setIfInBounds i true=(listed.setIfInBounds i true).setIfInBounds j true:=Array.setIfInBounds_comm _ _ U4;refine wpOp_mono (λa' w' h3=>?_) h2;obtain⟨hy',vV,qV⟩:=h3;have hSw:S w':=vV.elim (λhl=>(Q8 hl hT tV U4 hoj hnot).elim) id;exact⟨.inr hSw,ih (listed.setIfInBounds j true) a' w' hfree' (ready_mono hr (Ne.symm U4)) hy' hSw (by rw[hcomm];exact qV)⟩
inductive Kt where
 |it (k:List Item)
 |pr (p:Act->World->Prop)
 |dr (ops:Array Oper) (T:Nat->Bool) (Fx:List az) (done:List Nat) (k:List Item)
 |sw (ops:Array Oper) (T:Nat->Bool) (Fx:List az) (i:Nat) (done:List Nat) (k:List Item)
class Kt.nU(k:Kt):Prop where out:∀p,k≠.pr p
instance(k:List Item):Kt.nU (.it k):=⟨λ_ h=>by cases h⟩
instance(ops:Array Oper)(T:Nat->Bool)(Fx:List az)(done:List Nat)(k:List Item):Kt.nU (.dr ops T Fx done k):=⟨λ_ h=>by cases h⟩
instance(ops:Array Oper)(T:Nat->Bool)(Fx:List az)(i:Nat)(done:List Nat)(k:List Item):Kt.nU (.sw ops T Fx i done k):=⟨λ_ h=>by cases h⟩
def mark(n:Nat):List Nat->Array Bool
 |[]=>Array.replicate n false
 |i::r=>(mark n r).setIfInBounds i true
def isDst(ops:Array Oper)(t:Nat):Prop:=∃o∈ops.toList,o.dst=some t
def PD(P:Program)(b:Frame)(β:bS)(W:Nat->Prop)(R:Ending->List az->Prop)(ch:List PanicEntry)(a:Act)(w:World):Prop:=
 ∀a',a'.tmps.size=a.tmps.size->a'.defers=a.defers->(∀t,¬W t->a'.tmps[t]?=a.tmps[t]?)->Vm P b (.panicking ch) a' w (ux β R)
def QD(P:Program)(b:Frame)(β:bS)(ops:Array Oper)(k:List Item)(R:Ending->List az->Prop):Exit->Act->World->Prop
 |.normal,a,w=>vU P b k a w (ux β R)
 |.panic ch,a,w=>PD P b β (isDst ops) R ch a w
 |_,_,_=>False
def KN(P:Program)(b:Frame)(β:bS)(R:Ending->List az->Prop):Kt->Act->World->Prop
 |.it k,a,w=>vU P b k a w (ux β R)
 |.pr p,a,w=>p a w
 |.dr ops T Fx done k,a,w=>ql P ops (QD P b β ops k R) T (Sat β Fx) (ops.size - done.length) (mark ops.size done) a w
 |.sw ops T Fx i done k,a,w=>(late T ops i=true\/Sat β Fx w)/\ql P ops (QD P b β ops k R) T (Sat β Fx) (ops.size - done.length) (mark ops.size done) a w
def QK(P:Program)(b:Frame)(β:bS)(k:Kt)(R:Ending->List az->Prop):Exit->Act->World->Prop
 |.normal,a,w=>KN P b β R k a w
 |.panic ch,a,w=>match k with
  |.it _=>Vm P b (.panicking ch) a w (ux β R)
  |.pr _=>False
  |.dr ops ..=>PD P b β (isDst ops) R ch a w
  |.sw ops ..=>PD P b β (isDst ops) R ch a w
 |_,_,_=>False
def Kt.W:Kt->Nat->Prop
 |.dr ops ..,t=>isDst ops t
 |.sw ops ..,t=>isDst ops t
 |_,_=>False
theorem UA{k:Kt}[hk:Kt.nU k]{R:Ending->List az->Prop}{ch:List PanicEntry}(h:PD P b β k.W R ch a w):QK P b β k R (.panic ch) a w:=by
 cases k with
 |it k=>exact h a U U (λ_ _=>rfl)
 |pr p=>exact(hk.out p U).elim
 |dr=>exact h
 |sw=>exact h
def RL(P:Program)(ops:Array Oper)(p:Act->World->Prop):List Oper->Act->World->Prop
 |[],a,w=>p a w
 |o::rest,a,w=>(Region.wanted o (yielded ops a.tmps)=true/\∃v,(execOp a.eval o).run P w=.ok (.value v) w/\RL P ops p rest (a.put o.dst v) w)\/
  (Region.wanted o (yielded ops a.tmps)=false/\RL P ops p rest (a.put o.dst undef) w)
def WL(P:Program)(b:Frame)(β:bS)(ops:Array Oper)(k:Kt)(R:Ending->List az->Prop)(l:List Oper)(a:Act)(w:World):Prop:=
 match k with
 |.pr p=>RL P ops p l a w
 |.it k=>wpListIn (Fw b.roundOf) 0 P ops (QK P b β (.it k) R) l a w
 |.dr o T Fx done k=>wpList P ops (QK P b β (.dr o T Fx done k) R) l a w
 |.sw o T Fx i done k=>wpList P ops (QK P b β (.sw o T Fx i done k) R) l a w
section
variable {P:Program}{b:Frame}{β:bS}{ops:Array Oper}{k:Kt}[hk:Kt.nU k]{R:Ending->List az->Prop}{rest:List Oper}{o:Oper}{a:Act}{w w':World}
theorem oK{F:Fence}(hw:Region.wanted o (yielded ops a.tmps)=true)(h:o.wpIn F 0 P a w (wpListIn F 0 P ops Q rest) Q):wpListIn F 0 P ops Q (o::rest) a w:=by
 grind [wpListIn]
theorem WL.val(hw:Region.wanted o (yielded ops a.tmps)=true)(hr:(execOp a.eval o).run P w=.ok (.value v) w')(h:WL P b β ops k R rest (a.put o.dst v) w'):WL P b β ops k R (o::rest) a w:=a07
theorem aT6(hw:Region.wanted o (yielded ops a.tmps)=true)(hr:(execOp a.eval o).run P w=.ok .skip w')(h:WL P b β ops k R rest (a.put o.dst undef) w'):WL P b β ops k R (o::rest) a w:=a07
theorem My(hw:Region.wanted o (yielded ops a.tmps)=false)(h:WL P b β ops k R rest (a.put o.dst undef) w):WL P b β ops k R (o::rest) a w:=by
 cases k with
 |pr p=>exact(hk.out p U).elim
 |it k=>show wpListIn _ _ _ _ _ _ _ _;unfold wpListIn;rw[if_neg (by rw[hw];simp)];exact⟨λ_ _=>trivial,h⟩
 |dr=>show wpList _ _ _ _ _ _;unfold wpList;rw[hw];simp only[bY,if_false];exact h
 |sw=>show wpList _ _ _ _ _ _;unfold wpList;rw[hw];simp only[bY,if_false];exact h
theorem WL.cd(hw:Region.wanted o (yielded ops a.tmps)=true)(hr:(execOp a.eval o).run P w=.ok (.enter f args) w')(hc:Calls P f args w' R')(h1:∀v uv,R' (.returned v) uv->WL P b β ops k R rest (a.put o.dst v) uv)(h2:∀ch uv,R' (.panicked ch) uv->QK P b β k R (.panic ch) a uv)(h3:∀uv,¬R' .outgrown uv):WL P b β ops k R (o::rest) a w:=by
 cases k with
 |pr p=>exact(hk.out p U).elim
 |it k=>exact oK hw ⟨λ_ _=>trivial,by rw[CZ _ hr nH];exact⟨bE,uw _ (hc.mono λe uv he=>by
  cases e with
  |returned v=>exact h1 v uv he
  |panicked ch=>grind
  |outgrown=>grind)⟩⟩
 |dr=>show wpList _ _ _ _ _ _;unfold wpList;rw[hw];refine .inl ?_;unfold Oper.wp;rw[hr];exact(hc.mono λe uv he=>by
  cases e with
  |returned v=>exact h1 v uv he
  |panicked ch=>grind
  |outgrown=>grind)
 |sw=>show wpList _ _ _ _ _ _;unfold wpList;rw[hw];refine .inl ?_;unfold Oper.wp;rw[hr];exact(hc.mono λe uv he=>by
  cases e with
  |returned v=>exact h1 v uv he
  |panicked ch=>grind
  |outgrown=>grind)
theorem aV2(hw:Region.wanted o (yielded ops a.tmps)=true)(hr:(execOp a.eval o).run P w=.halt (.panic v) w')(h:QK P b β k R (.panic [{v,recovered:=false}]) a w'):WL P b β ops k R (o::rest) a w:=by
 cases k with
 |pr p=>exact(hk.out p U).elim
 |it k=>exact oK hw ⟨λ_ _=>trivial,by rw[M4 _ hr];exact h⟩
 |dr=>show wpList _ _ _ _ _ _;unfold wpList;rw[hw];refine .inl ?_;unfold Oper.wp;rw[hr];exact h
 |sw=>show wpList _ _ _ _ _ _;unfold wpList;rw[hw];refine .inl ?_;unfold Oper.wp;rw[hr];exact h
theorem UE{d:Deferred}(lC:b.roundOf=none)(hw:Region.wanted o (yielded ops a.tmps)=true)(hr:(execOp a.eval o).run P w=.ok (.defer d) w')(h:WL P b β ops k R rest ({a with defers:=d::a.defers}.put o.dst undef) w'):WL P b β ops k R (o::rest) a w:=by
 cases k with
 |pr p=>exact(hk.out p U).elim
 |it k=>exact oK hw ⟨λ_ _=>trivial,by rw[show(Fw b.roundOf).round=none from lC,Oper.semAt_none,hr];exact h⟩
 |dr=>show wpList _ _ _ _ _ _;unfold wpList;rw[hw];refine .inl ?_;unfold Oper.wp;rw[hr];exact h
 |sw=>show wpList _ _ _ _ _ _;unfold wpList;rw[hw];refine .inl ?_;unfold Oper.wp;rw[hr];exact h
theorem aT3{l:Nat}{tmps:Array Value}{bD4 bd:Code}{k:List Item}(hw:Region.wanted o (yielded ops a.tmps)=true)(hr:(execOp a.eval o).run P w=.ok (.round l f tmps bD4 bd) w')(hc:RoundIn (Fw b.roundOf) 0 P l f tmps bD4 bd w' R')(h1:∀v uv,R' (.returned v) uv->WL P b β ops (.it k) R rest (a.put o.dst v) uv)(h2:∀ch uv,¬R' (.panicked ch) uv)(h3:∀uv,¬R' .outgrown uv):WL P b β ops (.it k) R (o::rest) a w:=by
 refine oK hw ⟨λ_ _=>trivial,?_⟩
 rw[CZ _ hr nH]
 refine⟨bE,hc.mono ?_⟩
 intro e uv he
 cases e with
 |returned v=>exact h1 v uv he
 |panicked ch=>grind
 |outgrown=>grind
end
def SL(P:Program)(b:Frame)(β:bS)(ops:Array Oper)(l:List Oper)(k:Kt)(E:Env)(Hs:List az)(R:Ending->List az->Prop):Prop:=
 ∀a w,fU E a->Sat β Hs w->WL P b β ops k R l a w
def SK(P:Program)(b:Frame)(β:bS)(k:Kt)(E:Env)(Hs:List az)(R:Ending->List az->Prop):Prop:=
 ∀a w,fU E a->Sat β Hs w->KN P b β R k a w
section
variable {P:Program}{b:Frame}{β:bS}{k:List Item}{E:Env}{Hs:List az}{R:Ending->List az->Prop}
theorem SR.seq(h:SR P b β (.code x::.code y::k) E Hs R):SR P b β (.code (.seq x y)::k) E Hs R:=
 λa w he hs=>.step (λ_=>stepR_seq) (h a w he hs)
theorem SR.skip(h:SR P b β k E Hs R):SR P b β (.code .skip::k) E Hs R:=
 λa w he hs=>.step (λ_=>stepR_skip) (h a w he hs)
theorem SR.block{id:Nat}(h:SR P b β (.code c::.inBlock id::k) E Hs R):SR P b β (.code (.block id c)::k) E Hs R:=
 λa w he hs=>.step (λ_=>stepR_block) (h a w he hs)
theorem SR.inBlock{id:Nat}(h:SR P b β k E Hs R):SR P b β (.inBlock id::k) E Hs R:=
 λa w he hs=>.step (λ_=>stepR_inBlock) (h a w he hs)
theorem SR.exit{id:Nat}(hk:exitTo id k=some k')(h:SR P b β k' E Hs R):SR P b β (.code (.exit id)::k) E Hs R:=
 λa w he hs=>.step (λ_=>stepR_exit hk) (h a w he hs)
theorem SR.cond{c:Operand}{t:Bool}(hc:ev E c=some (.bool t))(h1:t=true->SR P b β (.code x::k) E Hs R)(h2:t=false->SR P b β (.code y::k) E Hs R):
 SR P b β (.code (.cond c x y)::k) E Hs R:=λa w he hs=>
 .step (λ_=>stepR_cond (rN he hc)) (by
  cases t
  ·exact h2 U a w he hs
  ·exact h1 U a w he hs)
theorem SR.bv9{c:Operand}(hc:ev E c=some (.bool true))(h1:SR P b β (.code x::k) E Hs R):SR P b β (.code (.cond c x y)::k) E Hs R:=
 by grind [SR.cond]
theorem SR.bw5{c:Operand}(hc:ev E c=some (.bool false))(h1:SR P b β (.code y::k) E Hs R):SR P b β (.code (.cond c x y)::k) E Hs R:=
 by grind [SR.cond]
theorem SR.loop{ι:Type}(st:ι->List (Nat×Value)×List az)(μ:ι->Nat)(i₀:ι)(h0:Sub (st i₀).1 E.vs)(hH:aN Hs (st i₀).2)(body:∀i,(∀i',μ i'<μ i->SR P b β (.inLoop c::k) {E with vs:=(st i').1} (st i').2 R)->SR P b β (.code c::.inLoop c::k) {E with vs:=(st i).1} (st i).2 R):
 SR P b β (.code (.loop c)::k) E Hs R:=by
 have key:∀n i,μ i=n->SR P b β (.code c::.inLoop c::k) {E with vs:=(st i).1} (st i).2 R:=by
  intro n;induction n using Nat.strongRecOn with
  |_ n ih=>
   intro i hi;refine body i λi' tV a w he hs=>?_;exact .step (λ_=>stepR_inLoop) (ih (μ i') (hi▸tV) i' U a w he hs)
 intro a w he hs
 exact .step (λ_=>stepR_loop) (key _ i₀ U a w (he.less U U h0) (hs.cd hH))
theorem SR.less{vs:List (Nat×Value)}{Hs':List az}(h:SR P b β k {E with vs} Hs' R)(hv:Sub vs E.vs)(hH:aN Hs Hs'):SR P b β k E Hs R:=
 λa w he hs=>h a w (he.less U U hv) (hs.cd hH)
theorem SR.region{id:Nat}{l:List Oper}(h:SL P b β l.toArray l (.it k) E Hs R):SR P b β (.code (.region id l.toArray false)::k) E Hs R:=
 λa w he hs=>.of_wp (wpIn_region_lit (h a w he hs)) (λ_ _ h=>h) (λ_ _ _ h=>h) (λ_ _ h=>h) (λ_ _ _ h=>h) (λ_ _ _ h=>h) (λ_ _ h=>h)
theorem SL.nil{k:Kt}(h:SK P b β k E Hs R):SL P b β ops [] k E Hs R:=by
 intro a w he hs;have:=h a w he hs;cases k<;>exact this
theorem SR.ret(lC:b.roundOf=none)(hf:P.funcs[b.fn]?=some fn)(hb:b.kind=.normal)(hd:E.ds=[])(h:∀a w,fU E a->Sat β Hs w->∃v,(results fn a.tmps).run P w=.ok v w/\ux β R (.returned v) w):SR P b β (.code .ret::k) E Hs R:=by
 intro a w he hs cs _
 obtain⟨v,hr,hR⟩:=h a w he hs
 refine⟨.returned v,w,_,hR,.one (stepR_ret lC),.mk lC U ⟨U,?_,hb,fn,hf,hr⟩⟩
 show a.defers=[]
 rw[he.2.1,hd]
theorem SR.fin(lC:b.roundOf=none)(hf:P.funcs[b.fn]?=some fn)(hb:b.kind=.normal)(hd:E.ds=[])(h:∀a w,fU E a->Sat β Hs w->∃v,(results fn a.tmps).run P w=.ok v w/\ux β R (.returned v) w):SR P b β [] E Hs R:=by
 intro a w he hs cs _
 obtain⟨v,hr,hR⟩:=h a w he hs
 refine⟨.returned v,w,_,hR,.one (stepR_end lC),.mk lC U ⟨U,?_,hb,fn,hf,hr⟩⟩
 show a.defers=[]
 rw[he.2.1,hd]
structure mi(b:Frame)(f:FuncId):Prop where
 fn:b.fn=f
 ro:b.roundOf=none
theorem TR.enter{G:bZ}{A:List az}(hf:P.funcs[f]?=some fn)(hb:fn.body=some c)(vs:List (Nat×Value))(hvs:Sub vs (args.toList.zipIdx.map fun(v,i)=>(i,v)))(h:∀b β,mi b f->b.kind=.normal->G.on β->SR P b β [.code c] ⟨args.size+(fn.ntmps - args.size),vs,[]⟩ A R):TR P G f args A R:=by
 intro β w hG hs
 refine Fs hf hb λb h1 h0 h2=>h b β ⟨h1,h0⟩ h2 hG _ w ⟨by simp,U,?_⟩ hs
 intro t v ht
 have h3:=hvs t v ht
 have key:∀(l:List Value) (m t:Nat) (v:Value),lk ((l.zipIdx m).map fun(v,i)=>(i,v)) t=some v->m<=t/\l[t - m]?=some v:=by
  intro l;induction l with
  |nil=>intro m t v h;cases h
  |cons x l ih=>
   intro m t v h;simp only[List.zipIdx_cons,aK,lk]at h;by_cases e:m=t;all_goals grind [beq_false]
 grind
end
end
section
variable{R:Ending->List az->Prop}{c:Option (Array Oper×List Oper)}{ds:List Deferred}{P:Program}{vs:List (Nat×Value)}{Hs Hs':List az}{d N:Nat}{v:Value}{b:Frame}{E:Env}{β:bS}{t:Bool}{a:Act}
def X(P:Program)(b:Frame)(β:bS)(c:Option (Array Oper×List Oper))(k:Kt)(E:Env)(Hs:List az)(R:Ending->List az->Prop):Prop:=
 b.kind=.normal->match c with
  |none=>SK P b β k E Hs R
  |some (ops,l)=>SL P b β ops l k E Hs R
def eo(vs:List (Nat×Value)):Operand->Option Value
 |.tmp t=>lk vs t
 |.const v=>some v
 |.global g=>some (.pointer (some ⟨g,0,none⟩))
 |.func f=>some (.func (.func f) #[] #[])
def nk(vs:List (Nat×Value)):List Operand->Option (List Value)
 |[]=>some []
 |x::r=>match eo vs x with
  |none=>none
  |some v=>match nk vs r with
   |none=>none
   |some l=>some (v::l)
theorem kO{E:Env}{a:Act}(h:fU E a):∀{l:List Operand} {us:List Value},nk E.vs l=some us->l.map a.eval=us
 |[],us,e=>by cases e;rfl
 |x::r,us,e=>by
  simp only[nk]at e;split at e
  ·cases e
  ·rename_i v hv;split at e
   ·cases e
   ·rename_i l hl;cases e;have h1:a.eval x=v:=rN h (by cases x<;>exact hv);simp[h1,kO h hl]
def bf5(op:BinOp)(k:IntKind)(m n:Int):Option Value:=
 match op with
 |.eql=>some (.bool (m==n))
 |.neq=>some (.bool (m !=n))
 |.lss=>some (.bool (decide (m<n)))
 |.leq=>some (.bool (decide (m<=n)))
 |.gtr=>some (.bool (decide (m>n)))
 |.geq=>some (.bool (decide (m≥n)))
 |.and=>some (.int k (k.wrap (BitVec.ofInt k.bits m&&&BitVec.ofInt k.bits n).toNat))
 |.or=>some (.int k (k.wrap (BitVec.ofInt k.bits m|||BitVec.ofInt k.bits n).toNat))
 |.xor=>some (.int k (k.wrap (BitVec.ofInt k.bits m^^^BitVec.ofInt k.bits n).toNat))
 |_=>none
def pop(vs:List (Nat×Value)):Op->Option Value
 |.move x=>eo vs x
 |.assign x=>eo vs x
 |.extract x i=>match eo vs x with
  |some (.tuple us)=>us.toList[i]?
  |_=>none
 |.nilCheck x=>match eo vs x with
  |some (.pointer (some p))=>some (.pointer (some p))
  |some (.func (.func f) a c)=>some (.func (.func f) a c)
  |_=>none
 |.binOp op _ x y _=>match eo vs x,eo vs y with
  |some (.int k m),some (.int k' n)=>match decide (k=k')with
   |true=>bf5 op k m n
   |false=>none
  |_,_=>none
 |.unOp op _ x=>match op,eo vs x with
  |.not,some (.bool t)=>some (.bool (!t))
  |_,_=>none
 |.makeFunc fn first cap=>match nk vs first.toList,nk vs cap.toList with
  |some f,some c=>some (.func fn f.toArray c.toArray)
  |_,_=>none
 |_=>none
theorem sF{x:Operand}:eo E.vs x=ev E x:=by cases x<;>rfl
theorem U5(h:fU E a){o:Oper}(e:pop E.vs o.op=some v)(w:World):
 (execOp a.eval o).run P w=.ok (.value v) w:=by
 obtain⟨dst,op,type,pos,after,guard⟩:=o
 dsimp only at e ⊢
 cases op<;>simp only[pop]at e<;>try(cases e;done)
 case move x=>have:=rN h (sF▸e);simp[execOp,this,pure]
 case assign x=>have:=rN h (sF▸e);simp[execOp,this,pure]
 case extract x i=>
  split at e
  ·rename_i us hx;have h1:=rN h (sF▸hx);rw[cZ]at e;simp[execOp,h1,Instr.extract,e,pure,bind,Sem.bind]
  ·cases e
 case nilCheck x=>
  split at e
  ·rename_i p hx;exact aE4
  ·rename_i f fa c hx;exact aE4
  ·cases e
 case binOp op t x y t'=>
  split at e
  ·rename_i k m k' n hx hy;have h1:=rN h (sF▸hx);have h2:=rN h (sF▸hy);split at e
   ·rename_i hk;have hk:k=k':=bE;subst hk;cases op<;>simp only[bf5]at e<;>try(cases e;done)
    all_goals
     cases e
     simp[execOp,h1,h2,eqGuard,binOp,Op.intCmp,Op.intBits,pure,bind,Sem.bind]
   ·cases e
  ·cases e
 case unOp op t x=>
  split at e
  ·rename_i t hx;cases e;have h1:=rN h (sF▸hx);simp[execOp,h1,Op.unary,pure,bind,Sem.bind]
  ·cases e
 case makeFunc fn first cap=>
  split at e
  ·rename_i f c hf hc;cases e;have h1:=kO h hf;have h2:=kO h hc;have e1:first.map a.eval=f.toArray:=bE
   have e2:cap.map a.eval=c.toArray:=bE;simp[execOp,e1,e2,Instr.makeFunc,pure,bind,Sem.bind]
  ·cases e
section
variable {P:Program}{b:Frame}{β:bS}{k:Kt}{E:Env}{Hs:List az}{R:Ending->List az->Prop}{ops:Array Oper}{rest:List Oper}{o:Oper}
def aJ(ops:Array Oper)(vs:List (Nat×Value))(o:Oper):Option Bool:=
 match o.guard with
 |none=>some true
 |some (j,want)=>match(ops[j]?).bind (·.dst)with
  |none=>none
  |some d=>match lk vs d with
   |some (.bool t)=>some (t==want)
   |some (.tuple _)=>some false
   |_=>none
theorem kD(h:fU E a)(e:aJ ops E.vs o=some t):Region.wanted o (yielded ops a.tmps)=t:=by
 unfold aJ at e
 unfold Region.wanted
 split at e
 ·grind
 ·rename_i j want hg;split at e
  ·cases e
  ·rename_i d hd;split at e
   ·rename_i u hu
    cases e
    have h3:=h.2.2 _ _ hu
    grind [yielded]
   ·rename_i u hu
    cases e
    have h3:=h.2.2 _ _ hu
    grind [yielded]
   ·cases e
theorem X.op[hk:Kt.nU k](hw:aJ ops E.vs o=some true)
 (h:∀a w,fU E a->Sat β Hs w->∃v w',(execOp a.eval o).run P w=.ok (.value v) w'/\WL P b β ops k R rest (a.put o.dst v) w'):
 X P b β (some (ops,o::rest)) k E Hs R:=by
 intro hb a w he hs
 grind [WL.val,kD]
theorem be6[hk:Kt.nU k](hw:aJ ops E.vs o=some true)
 (h:∀a w,fU E a->Sat β Hs w->∃w',(execOp a.eval o).run P w=.ok .skip w'/\WL P b β ops k R rest (a.put o.dst undef) w'):
 X P b β (some (ops,o::rest)) k E Hs R:=by
 intro hb a w he hs
 grind [aT6,kD]
theorem X.val(hd:o.dst=some d)(hn:aH d E.n=true)(hw:aJ ops E.vs o=some true)(hr:∀a w,fU E a->Sat β Hs w->(execOp a.eval o).run P w=.ok (.value v) w)(h:X P b β (some (ops,rest)) k (E.put d v) Hs R):X P b β (some (ops,o::rest)) k E Hs R:=by
 intro hb a w he hs
 have h1:=h hb _ _ (he.put hn v) hs
 rw[<-hd]at h1
 have h2:=hr a w he hs
 have h3:=kD he hw
 cases k with
 |pr p=>exact .inl ⟨h3,v,h2,h1⟩
 |it=>grind [WL.val]
 |dr=>grind [WL.val]
 |sw=>grind [WL.val]
theorem CV[hk:Kt.nU k](hd:o.dst=some d)(hn:aH d E.n=true)(hw:aJ ops E.vs o=some true)(hr:∀a w,fU E a->Sat β Hs w->∃w',(execOp a.eval o).run P w=.ok (.value v) w'/\Sat β Hs' w')(h:X P b β (some (ops,rest)) k (E.put d v) Hs' R):X P b β (some (ops,o::rest)) k E Hs R:=by
 intro hb
 refine X.op hw (λa w he hs=>?_) hb
 obtain⟨w',h1,h2⟩:=hr a w he hs
 refine⟨v,w',h1,?_⟩
 rw[hd]
 exact h hb _ _ (he.put hn v) h2
theorem ly[hk:Kt.nU k]{ι:Type}{v:ι->Value}{Hs':ι->List az}(hd:o.dst=some d)(hn:aH d E.n=true)(hw:aJ ops E.vs o=some true)(hr:∀a w,fU E a->Sat β Hs w->∃i w',(execOp a.eval o).run P w=.ok (.value (v i)) w'/\Sat β (Hs' i) w')(h:∀i,X P b β (some (ops,rest)) k (E.put d (v i)) (Hs' i) R):X P b β (some (ops,o::rest)) k E Hs R:=by
 intro hb
 refine X.op hw (λa w he hs=>?_) hb
 obtain⟨i,w',h1,h2⟩:=hr a w he hs
 refine⟨v i,w',h1,?_⟩
 rw[hd]
 exact h i hb _ _ (he.put hn _) h2
theorem Jq[hk:Kt.nU k](hd:o.dst=none)(hw:aJ ops E.vs o=some true)(hr:∀a w,fU E a->Sat β Hs w->∃w',(execOp a.eval o).run P w=.ok .skip w'/\Sat β Hs' w')(h:X P b β (some (ops,rest)) k E Hs' R):X P b β (some (ops,o::rest)) k E Hs R:=by
 intro hb
 refine be6 hw (λa w he hs=>?_) hb
 obtain⟨w',h1,h2⟩:=hr a w he hs
 refine⟨w',h1,?_⟩
 rw[hd]
 exact h hb _ _ he h2
theorem aS2(hd:o.dst=some d)(hn:aH d E.n=true)(hw:aJ ops E.vs o=some false)(h:X P b β (some (ops,rest)) k (E.put d undef) Hs R):X P b β (some (ops,o::rest)) k E Hs R:=by
 intro hb a w he hs
 have h1:=h hb _ _ (he.put hn _) hs
 rw[<-hd]at h1
 have h3:=kD he hw
 cases k with
 |pr p=>exact .inr ⟨h3,h1⟩
 |it=>grind [My]
 |dr=>grind [My]
 |sw=>grind [My]
theorem HH(d:Nat)(hd:lk vs d=some (.bool t))(h1:t=true->X P b β c k ⟨N,(d,.bool true)::vs,ds⟩ Hs R)(h2:t=false->X P b β c k ⟨N,(d,.bool false)::vs,ds⟩ Hs R):X P b β c k ⟨N,vs,ds⟩ Hs R:=by
 have key:∀u,t=u->∀a,fU ⟨N,vs,ds⟩ a->fU ⟨N,(d,.bool u)::vs,ds⟩ a:=by
  rintro u rfl a he;exact Jp (E:=⟨N,vs,ds⟩) he d hd
 intro hb
 cases t
 ·have:=h2 U hb;exact bs3
 ·have:=h1 U hb;exact bs3
end
inductive Pt where
 |mk (c:Option (Array Oper×List Oper)) (k:Kt) (vs:List (Nat×Value))
 |off
def U6(N:Nat):Nat->Option (Array Oper×List Oper)->Kt->List (Nat×Value)->Pt
 |0,c,k,vs=>.mk c k vs
 |n+1,none,.it (.code (.seq x y)::k),vs=>U6 N n none (.it (.code x::.code y::k)) vs
 |n+1,none,.it (.code .skip::k),vs=>U6 N n none (.it k) vs
 |n+1,none,.it (.code (.block id c)::k),vs=>U6 N n none (.it (.code c::.inBlock id::k)) vs
 |n+1,none,.it (.inBlock _::k),vs=>U6 N n none (.it k) vs
 |_+1,none,.it (.code (.region id ops true)::k),vs=>.mk none (.it (.code (.region id ops true)::k)) vs
 |n+1,none,.it (.code (.region _ ops false)::k),vs=>U6 N n (some (ops,ops.toList)) (.it k) vs
 |_+1,none,k,vs=>.mk none k vs
 |n+1,some (_,[]),k,vs=>U6 N n none k vs
 |n+1,some (ops,⟨dst,op,ty,pos,after,guard⟩::rest),k,vs=>
  match guard,dst,pop vs op with
  |none,some d,some v=>match aH d N with
   |true=>U6 N n (some (ops,rest)) k ((d,v)::vs)
   |false=>.mk (some (ops,⟨dst,op,ty,pos,after,guard⟩::rest)) k vs
  |_,_,_=>.mk (some (ops,⟨dst,op,ty,pos,after,guard⟩::rest)) k vs
theorem SR.V2{k:List Item}{id:Nat}{ops:Array Oper}(h:SL P b β ops ops.toList (.it k) E Hs R):SR P b β (.code (.region id ops false)::k) E Hs R:=by
 obtain⟨l⟩:=ops
 exact SR.region h
theorem bc9:∀(n:Nat) {c:Option (Array Oper×List Oper)} {k:Kt} {vs:List (Nat×Value)} {c':Option (Array Oper×List Oper)} {k':Kt} {zH:List (Nat×Value)},
 U6 N n c k vs=.mk c' k' zH->X P b β c' k' ⟨N,zH,ds⟩ Hs R->X P b β c k ⟨N,vs,ds⟩ Hs R:=by
 intro n
 induction n with
 |zero=>intro c k vs c' k' zH h;simp only[Sl.U6,Pt.mk.injEq]at h;obtain⟨rfl,rfl,rfl⟩:=h;exact id
 |succ n ih=>
  intro c k vs c' k' zH h hx;unfold Sl.U6 at h;split at h
  ·rename_i e;cases e
  ·rename_i e;cases e;exact λhb=>SR.seq (ih h hx hb)
  ·rename_i e;cases e;exact λhb=>SR.skip (ih h hx hb)
  ·rename_i e;cases e;exact λhb=>SR.block (ih h hx hb)
  ·rename_i e;cases e;exact λhb=>SR.inBlock (ih h hx hb)
  ·cases h;exact hx
  ·rename_i e;cases e;exact λhb=>SR.V2 (ih h hx hb)
  ·cases h;exact hx
  ·rename_i e;cases e;exact λhb=>SL.nil (ih h hx hb)
  ·rename_i e;cases e;split at h
   ·rename_i d v hv;split at h
    ·rename_i hn;exact X.val (v:=v) U hn U (λa w he _=>U5 he hv w) (ih h hx)
    ·cases h;exact hx
   ·cases h;exact hx
def ac2(N:Nat):Option (Array Oper×List Oper)->Kt->List (Nat×Value)->Bool
 |none,.it (.code (.seq _ _)::_),_=>true
 |none,.it (.code .skip::_),_=>true
 |none,.it (.code (.block _ _)::_),_=>true
 |none,.it (.inBlock _::_),_=>true
 |none,.it (.code (.region _ _ false)::_),_=>true
 |none,_,_=>false
 |some (_,[]),_,_=>true
 |some (_,⟨dst,op,_,_,_,guard⟩::_),_,vs=>
  match guard,dst,pop vs op with
  |none,some d,some _=>aH d N
  |_,_,_=>false
theorem X.go(n:Nat){k:Kt}{c':Option (Array Oper×List Oper)}{k':Kt}{zH:List (Nat×Value)}(_:ac2 N c k vs=true)(h:Sl.U6 N n c k vs=.mk c' k' zH)(hx:X P b β c' k' ⟨N,zH,ds⟩ Hs R):X P b β c k ⟨N,vs,ds⟩ Hs R:=bc9 n h hx
end
section
variable{t ty:TypeId}{cs l:List Value}{v:Value}{b i n:Nat}
class px(P:Program)(t:Nat)(e:outParam Nat):Prop where out:P.underlying t=some (.slice e)
class xy(P:Program)(t:Nat)(k e:outParam Nat):Prop where out:P.underlying t=some (.map k e)
class U7(P:Program)(t:Nat)(e:outParam Nat):Prop where out:P.underlying t=some (.pointer e)
class oL(P:Program)(t:Nat):Prop where out:P.underlying t=some .string
class aV3(P:Program)(t:Nat):Prop where out:P.underlying t=some .bool
class uy(P:Program)(t:Nat)(k:outParam IntKind):Prop where out:P.underlying t=some (.int k)
class iI(P:Program)(t:Nat)(n:outParam Nat):Prop where out:(P.info? t).map (·.size)=some n
class yl(P:Program)(t:Nat)(n:outParam Nat):Prop where out:(P.info? t).map (·.bytes)=some n
class TZ(P:Program)(t:Nat)(zs:outParam (List Value)):Prop where out:((P.info? t).bind (·.zero)).map (·.cells.toList)=some zs
def ac3:TypeDesc->Bool
 |.struct _=>true
 |.array _ _=>true
 |_=>false
class TA(P:Program)(t:Nat)(g:outParam Bool):Prop where out:(P.underlying t).map ac3=some g
class TF(P:Program)(s i:Nat)(off sz:outParam Nat)(ag:outParam Bool):Prop where
 out:∃fs f,P.underlying s=some (.struct fs)/\fs[i]?=some f/\f.offset=off/\(P.info? f.type).map (·.size)=some sz/\sz≠0/\
  (P.underlying f.type).map ac3=some ag
class tG(P:Program)(s:Nat)(l:outParam (List (Nat×Nat))):Prop where
 out:∃fs:Array Field,P.underlying s=some (.struct fs)/\fs.toList.map (λf=>(f.offset,(P.info? f.type).map (·.size)))=l.map fun(a,b)=>(a,some b)
class CF(P:Program)(f:Nat):Prop where out:∀args w,(callFunc f args).run P w=.ok (.enter f args) w
class FR(P:Program)(f:Nat)(rs:outParam (List ResultVar)):Prop where out:∃fn,P.funcs[f]?=some fn/\fn.results.toList=rs
def HR(fn:Func):Code:=fn.body.getD .skip
class FC(P:Program)(f:Nat)(n:outParam Nat)(c:outParam Code):Prop where out:∃fn,P.funcs[f]?=some fn/\fn.ntmps=n/\fn.body=some c
section
variable {P:Program}{w:World}
theorem bC{d:TypeDesc}(h:P.underlying t=some d):(underlying t).run P w=.ok d w:=run_underlying h w
theorem C1{i:TypeInfo}(h:P.info? t=some i):(typeInfo t).run P w=.ok i w:=by
 simp[typeInfo,h]
theorem iR(h:(P.info? t).map (·.size)=some n):(sizeOf t).run P w=.ok n w:=by
 obtain⟨i,hi,rfl⟩:=bk.1 h;simp[sizeOf,C1 hi]
theorem uz{zs:List Value}(h:((P.info? t).bind (·.zero)).map (·.cells.toList)=some zs):∃z,(zeroValue t).run P w=.ok z w/\z.cells=zs.toArray:=by
 obtain⟨z,hz,rfl⟩:=bk.1 h;obtain⟨i,hi,hz⟩:=Option.bind_eq_some_iff.1 hz;exact⟨z,by simp[zeroValue,C1 hi,hz],by simp⟩
theorem iY{g:Bool}(h:(P.underlying t).map ac3=some g):(isAgg t).run P w=.ok g w:=by
 obtain⟨d,hd,rfl⟩:=bk.1 h;simp only[isAgg,aU,bC hd,aC];cases d<;>rfl
end
def bx(b:Nat)(ty:TypeId)(cs:List Value):az:=pt b (.cells cs.toArray ty (0,0))
class FB(Hs:List az)(b:Nat)(ty:outParam TypeId)(cs:outParam (List Value))(rest:outParam (List az)):Prop where out:aN Hs (bx b ty cs::rest)
instance FB.here(b:Nat)(ty:TypeId)(cs:List Value)(Hs:List az):FB (bx b ty cs::Hs) b ty cs Hs:=⟨aN.refl _⟩
instance(priority:=low) FB.there(p:az)(Hs:List az)(b:Nat)(ty:TypeId)(cs:List Value)(rest:List az)[h:FB Hs b ty cs rest]:FB (p::Hs) b ty cs (p::rest):=
 ⟨(aN.cons p h.out).trans (cQ _ _ _)⟩
theorem Sat.cell{β:bS}{Hs:List az}{w:World}{rest:List az}(h:Sat β Hs w)(hf:aN Hs (bx b ty cs::rest))(hi:cs[i]?=some v):
 w.cell? ⟨b,i,none⟩=some v:=by
 have:=dS (h.cd hf)
 grind [gj]
def cl:Value->Option (List Value)
 |.agg ⟨l⟩=>some l
 |.tuple _=>none
 |.bool x=>some [.bool x]
 |.int k n=>some [.int k n]
 |.float k n=>some [.float k n]
 |.complex k n m=>some [.complex k n m]
 |.string s=>some [.string s]
 |.pointer a=>some [.pointer a]
 |.slice a n c=>some [.slice a n c]
 |.map r=>some [.map r]
 |.chan r=>some [.chan r]
 |.func f a c=>some [.func f a c]
 |.nilFunc=>some [.nilFunc]
 |.iface t v=>some [.iface t v]
 |.nilIface=>some [.nilIface]
theorem PB(h:cl v=some l):v.cells=l.toArray:=by
 unfold cl at h;split at h<;>cases h<;>rfl
def tk:Nat->List Value->Option (List Value)
 |0,_=>some []
 |_+1,[]=>none
 |n+1,v::r=>match tk n r with
  |some l=>some (v::l)
  |none=>none
def JC:Nat->Nat->List Value->Option (List Value)
 |0,n,l=>tk n l
 |_+1,_,[]=>none
 |i+1,n,_::r=>JC i n r
theorem aw8:∀{n:Nat} {l r:List Value},tk n l=some r->r.length=n/\∀(j:Nat) (v:Value),r[j]?=some v->l[j]?=some v
 |0,l,r,h=>by cases h;grind
 |n+1,[],r,h=>by cases h
 |n+1,x::l,r,h=>by
  simp only[tk]at h;split at h
  ·rename_i l' hl;cases h;obtain⟨h1,h2⟩:=aw8 hl;refine⟨by simp[h1],?_⟩;intro j v hj;cases j with
   |zero=>simpa using hj
   |succ j=>simpa using h2 j v (by simpa using hj)
  ·cases h
theorem Ch:∀{i n:Nat} {l r:List Value},JC i n l=some r->r.length=n/\∀(j:Nat) (v:Value),r[j]?=some v->l[i+j]?=some v
 |0,n,l,r,h=>by simpa using aw8 h
 |i+1,n,[],r,h=>by cases h
 |i+1,n,x::l,r,h=>by
  obtain⟨h1,h2⟩:=Ch (i:=i) (n:=n) (l:=l) (r:=r) h;refine⟨h1,λj v hj=>?_⟩;have:=h2 j v hj;rw[show i+1+j=(i+j)+1 from by omega];simpa using this
def ov:List Value->List Value->Option (List Value)
 |l,[]=>some l
 |[],_::_=>none
 |_::l,v::r=>match ov l r with
  |some m=>some (v::m)
  |none=>none
def Fz:Nat->List Value->List Value->Option (List Value)
 |0,l,r=>ov l r
 |_+1,[],_=>none
 |i+1,x::l,r=>match Fz i l r with
  |some m=>some (x::m)
  |none=>none
theorem aw9:∀{l r m:List Value},ov l r=some m->r.length<=l.length/\m=r++l.drop r.length
 |l,[],m,h=>by cases l<;>cases h<;>simp
 |[],_::_,m,h=>by cases h
 |x::l,v::r,m,h=>by
  simp only[ov]at h;split at h
  ·rename_i m' hm
   cases h
   obtain⟨h1,h2⟩:=aw9 hm
   grind
  ·cases h
theorem HS:∀{i:Nat} {l r m:List Value},Fz i l r=some m->i+r.length<=l.length/\m=l.take i++r++l.drop (i+r.length)
 |0,l,r,m,h=>by simpa using aw9 h
 |i+1,[],r,m,h=>by cases h
 |i+1,x::l,r,m,h=>by
  simp only[Fz]at h;split at h
  ·rename_i m' hm
   cases h
   obtain⟨h1,h2⟩:=HS hm
   grind
  ·cases h
def mB:List Value->Bool
 |[]=>true
 |v::r=>match v with
  |.agg _=>false
  |.tuple _=>false
  |_=>mB r
theorem pV:∀{l:List Value},mB l=true->∀v∈l,v.oneCell'=true
 |[],_,v,h=>by cases h
 |x::r,h,v,hv=>by
  simp only[mB]at h;split at h
  ·cases h
  ·cases h
  ·rcases bK.1 hv with rfl|hv
   ·cases v<;>simp_all[Value.oneCell']
   ·exact pV h v hv
section
variable {P:Program}{w:World}{β:bS}{Hs rest:List az}
theorem A8(h:Sat β Hs w)(hf:aN Hs (bx b ty cs::rest))[ht:TA P t false](hi:cs[i]?=some v):
 (iO t (.pointer (some ⟨b,i,none⟩))).run P w=.ok v w:=by
 have hg:=iY (P:=P) (w:=w) ht.out
 simp[iO,eM,loadVar,hg,Sat.cell h hf hi]
theorem addr_add(b i j:Nat):(⟨b,i,none⟩:Addr).add j=⟨b,i+j,none⟩:=by
 grind [Addr.add]
theorem Bc(h:Sat β Hs w)(hf:aN Hs (bx b ty cs::rest))[ht:TA P t true][hz:iI P t n](hi:JC i n cs=some l):
 (iO t (.pointer (some ⟨b,i,none⟩))).run P w=.ok (.agg l.toArray) w:=by
 have hg:=iY (P:=P) (w:=w) ht.out
 obtain⟨h3,h4⟩:=Ch hi
 have hl:=run_loadCells_list (P:=P) w ⟨b,i,none⟩ l (λj v hj=>by rw[addr_add];exact Sat.cell h hf (h4 j v hj))
 rw[h3]at hl
 simp[iO,eM,loadVar,hg,iR hz.out,hl]
theorem Sat.store{JA:List Value}(h:Sat β Hs w)(hf:aN Hs (bx b ty cs::rest))[hz:iI P t n](hv:cl v=some l)(hl:l.length=n)(ho:mB l=true)(hi:Fz i cs l=some JA):
 ∃w',(Instr.storeAt t (.pointer (some ⟨b,i,none⟩)) v).run P w=.ok () w'/\Sat β (bx b ty JA::rest) w':=by
 obtain⟨h1,h2⟩:=HS hi
 have hs:=h.cd hf
 have hb:=dS hs
 have iz:=run_storeCells_at P b i ty l 0 cs.toArray w hb av (pV ho)
 have hc:=PB hv
 refine⟨w.setRow b JA.toArray,?_,?_⟩
 ·have xz:v.cells.size=n:=by grind
  simp only[Instr.storeAt,eM,storeVar,aU,bN,aC,iR hz.out,xz,ne_eq,not_true_eq_false,if_false]
  grind
 ·refine Sat.put (y:=.cells JA.toArray ty (0,0)) hs ⟨U,U,U,by simp[World.setRow],λ_=>ar _⟩ ?_ ?_;all_goals grind [World.setRow]
end
end
variable{β:bS}{Hs:List az}{b:Frame}{R:Ending->List az->Prop}{k:Kt}{N d ty:Nat}{ds:List Deferred}{ops:Array Oper}{pos:String}{af:Array Edge}{g:Option (Nat×Bool)}{E:Env}{cc:Option (Array Oper×List Oper)}{w:World}{G:bZ}{α:Type}
section
variable{x y:Operand}{l zs cs xs:List Value}{v:Value}{c:Option (Array Oper×List Oper)}{a:Option Addr}{t sz n e f bl o t' bt Bg off s j b':Nat}{kk k2 k1:IntKind}{rs:List ResultVar}{vs us:List (Nat×Value)}{m:Int}{parts:List (Nat×Operand)}{Q:Value->List az->Prop}{Hs' A F rr:List az}{high low:Option Operand}{qW:Array TypeId}{op:BinOp}{cur:Array Value}{P:Program}{p:Hp->Prop}{r:Hp}
section
variable{P:Program}{vs:List (Nat×Value)}{rest:List Oper}
theorem aO{a:Act}(h:fU ⟨N,vs,ds⟩ a)(e:eo vs x=some v):a.eval x=v:=rN h (by rw[<-sF];exact e)
theorem aS7{c:Nat}[ht:px P t e](hw:aJ ops vs ⟨some d,.call ⟨.builtin .len,#[x],#[t]⟩,ty,pos,af,g⟩=some true)(hn:aH d N=true)(hx:eo vs x=some (.slice a n c))(h:X P b β (some (ops,rest)) k ⟨N,(d,.int .i64 n)::vs,ds⟩ Hs R):X P b β (some (ops,⟨some d,.call ⟨.builtin .len,#[x],#[t]⟩,ty,pos,af,g⟩::rest)) k ⟨N,vs,ds⟩ Hs R:=
 X.val U hn hw (λa w he _=>by
  have:=aO he hx;simp[execOp,resolve,invoke,builtin,Builtin.len_,this,bC ht.out,goInt]) h
theorem X.add{n:Int}(hw:aJ ops vs ⟨some d,.binOp .add t x y t',ty,pos,af,g⟩=some true)(hn:aH d N=true)(hx:eo vs x=some (.int .i64 m))(hy:eo vs y=some (.int .i64 n))(h1: -9223372036854775808<=m+n)(h2:m+n<=9223372036854775807)(h:X P b β (some (ops,rest)) k ⟨N,(d,.int .i64 (m+n))::vs,ds⟩ Hs R):X P b β (some (ops,⟨some d,.binOp .add t x y t',ty,pos,af,g⟩::rest)) k ⟨N,vs,ds⟩ Hs R:=
 X.val U hn hw (λa w he _=>by
  have e1:=aO he hx;have e2:=aO he hy;have e3:=IntWalk.i64_in (m+n) ⟨h1,h2⟩;simp[execOp,e1,e2,eqGuard,binOp,Op.intArith,e3]) h
theorem X.sub{n:Int}(hw:aJ ops vs ⟨some d,.binOp .sub t x y t',ty,pos,af,g⟩=some true)(hn:aH d N=true)(hx:eo vs x=some (.int .i64 m))(hy:eo vs y=some (.int .i64 n))(h1: -9223372036854775808<=m - n)(h2:m - n<=9223372036854775807)(h:X P b β (some (ops,rest)) k ⟨N,(d,.int .i64 (m - n))::vs,ds⟩ Hs R):X P b β (some (ops,⟨some d,.binOp .sub t x y t',ty,pos,af,g⟩::rest)) k ⟨N,vs,ds⟩ Hs R:=
 X.val U hn hw (λa w he _=>by
  have e1:=aO he hx;have e2:=aO he hy;have e3:=IntWalk.i64_in (m - n) ⟨h1,h2⟩;simp[execOp,e1,e2,eqGuard,binOp,Op.intArith,e3]) h
def arith(op:BinOp)(k:IntKind)(m n:Int):Option Value:=
 match op with
 |.add=>some (.int k (k.wrap (m+n)))
 |.sub=>some (.int k (k.wrap (m - n)))
 |.mul=>some (.int k (k.wrap (m*n)))
 |_=>none
theorem Gf{n:Int}(hw:aJ ops vs ⟨some d,.binOp op t x y t',ty,pos,af,g⟩=some true)(hn:aH d N=true)(hx:eo vs x=some (.int kk m))(hy:eo vs y=some (.int kk n))(hv:arith op kk m n=some v)(h:X P b β (some (ops,rest)) k ⟨N,(d,v)::vs,ds⟩ Hs R):X P b β (some (ops,⟨some d,.binOp op t x y t',ty,pos,af,g⟩::rest)) k ⟨N,vs,ds⟩ Hs R:=
 X.val U hn hw (λa w he _=>by
  have e1:=aO he hx;have e2:=aO he hy;cases op<;>simp only[arith]at hv<;>try(cases hv;done)
  all_goals cases hv;simp[execOp,e1,e2,eqGuard,binOp,Op.intArith]) h
theorem aR3{n:Int}(hw:aJ ops vs ⟨some d,.binOp op t x y t',ty,pos,af,g⟩=some true)(hn:aH d N=true)(hx:eo vs x=some (.int kk m))(hy:eo vs y=some (.int kk n))(hv:arith op kk m n=some v)(_:decide (kk=.i64)=false)(h:X P b β (some (ops,rest)) k ⟨N,(d,v)::vs,ds⟩ Hs R):X P b β (some (ops,⟨some d,.binOp op t x y t',ty,pos,af,g⟩::rest)) k ⟨N,vs,ds⟩ Hs R:=Gf hw hn hx hy hv h
def shift(op:BinOp)(k:IntKind)(m n:Int):Option Value:=
 match op with
 |.shl=>some (.int k (k.wrap (m*2^(min n.toNat k.bits))))
 |.shr=>some (.int k (m.fdiv (2^(min n.toNat k.bits))))
 |_=>none
theorem Pq{n:Int}(hw:aJ ops vs ⟨some d,.binOp op t x y t',ty,pos,af,g⟩=some true)(hn:aH d N=true)(hx:eo vs x=some (.int kk m))(hy:eo vs y=some (.int k2 n))(hv:shift op kk m n=some v)(h0:0<=n)(h:X P b β (some (ops,rest)) k ⟨N,(d,v)::vs,ds⟩ Hs R):X P b β (some (ops,⟨some d,.binOp op t x y t',ty,pos,af,g⟩::rest)) k ⟨N,vs,ds⟩ Hs R:=
 X.val U hn hw (λa w he _=>by
  have e1:=aO he hx;have e2:=aO he hy;have h0':¬n<0:=av;cases op<;>simp only[shift]at hv<;>try(cases hv;done)
  all_goals cases hv;simp[execOp,e1,e2,eqGuard,binOp,Op.shift,h0']) h
def un1(op:UnOp)(k:IntKind)(n:Int):Option Value:=
 match op with
 |.neg=>some (.int k (k.wrap (0 - n)))
 |.xor=>some (.int k (k.wrap (BitVec.ofInt k.bits (if k.signed then -1 else k.max)^^^BitVec.ofInt k.bits n).toNat))
 |_=>none
theorem bt3{op:UnOp}(hw:aJ ops vs ⟨some d,.unOp op t x,ty,pos,af,g⟩=some true)(hn:aH d N=true)(hx:eo vs x=some (.int kk m))(hv:un1 op kk m=some v)(h:X P b β (some (ops,rest)) k ⟨N,(d,v)::vs,ds⟩ Hs R):X P b β (some (ops,⟨some d,.unOp op t x,ty,pos,af,g⟩::rest)) k ⟨N,vs,ds⟩ Hs R:=
 X.val U hn hw (λa w he _=>by
  have e1:=aO he hx;cases op<;>simp only[un1]at hv<;>try(cases hv;done)
  all_goals cases hv;simp[execOp,e1,Op.unary,Op.intArith,Op.intBits]) h
theorem aU1[hs:uy P s k1][ht:uy P t k2](hw:aJ ops vs ⟨some d,.convert s t x,ty,pos,af,g⟩=some true)(hn:aH d N=true)(hx:eo vs x=some (.int kk m))(h:X P b β (some (ops,rest)) k ⟨N,(d,.int k2 (k2.wrap m))::vs,ds⟩ Hs R):X P b β (some (ops,⟨some d,.convert s t x,ty,pos,af,g⟩::rest)) k ⟨N,vs,ds⟩ Hs R:=
 X.val U hn hw (λa w he _=>by
  have e1:=aO he hx;simp[execOp,e1,convert,bC hs.out,bC ht.out,Conv.intToInt]) h
theorem ab3{c:Operand}(hw:aJ ops vs ⟨some d,.pick c x y,ty,pos,af,g⟩=some true)(hn:aH d N=true)(hc:eo vs c=some (.bool true))(hx:eo vs x=some v)(h:X P b β (some (ops,rest)) k ⟨N,(d,v)::vs,ds⟩ Hs R):X P b β (some (ops,⟨some d,.pick c x y,ty,pos,af,g⟩::rest)) k ⟨N,vs,ds⟩ Hs R:=
 X.val U hn hw (λa w he _=>by
  have e1:=aO he hc;have e2:=aO he hx;simp[execOp,e1,e2,asBool]) h
theorem aa7{c:Operand}(hw:aJ ops vs ⟨some d,.pick c x y,ty,pos,af,g⟩=some true)(hn:aH d N=true)(hc:eo vs c=some (.bool false))(hx:eo vs y=some v)(h:X P b β (some (ops,rest)) k ⟨N,(d,v)::vs,ds⟩ Hs R):X P b β (some (ops,⟨some d,.pick c x y,ty,pos,af,g⟩::rest)) k ⟨N,vs,ds⟩ Hs R:=
 X.val U hn hw (λa w he _=>by
  have e1:=aO he hc;have e2:=aO he hx;simp[execOp,e1,e2,asBool]) h
theorem aa6{op:Op}(hw:aJ ops vs ⟨some d,op,ty,pos,af,g⟩=some false)(hn:aH d N=true)
 (h:X P b β (some (ops,rest)) k ⟨N,(d,undef)::vs,ds⟩ Hs R):X P b β (some (ops,⟨some d,op,ty,pos,af,g⟩::rest)) k ⟨N,vs,ds⟩ Hs R:=aS2 U hn hw h
theorem aS6{op:Op}(hw:aJ ops vs ⟨some d,op,ty,pos,af,g⟩=some true)(hn:aH d N=true)(hv:pop vs op=some v)(h:X P b β (some (ops,rest)) k ⟨N,(d,v)::vs,ds⟩ Hs R):X P b β (some (ops,⟨some d,op,ty,pos,af,g⟩::rest)) k ⟨N,vs,ds⟩ Hs R:=
 X.val U hn hw (λ_ w he _=>U5 (o:=⟨some d,op,ty,pos,af,g⟩) he hv w) h
theorem aT5{i:Nat}[hf:TF P s i off sz true](hw:aJ ops vs ⟨some d,.field s x i,ty,pos,af,g⟩=some true)(hn:aH d N=true)(hx:eo vs x=some (.agg cs.toArray))(hl:JC off sz cs=some l)(h:X P b β (some (ops,rest)) k ⟨N,(d,.agg l.toArray)::vs,ds⟩ Hs R):X P b β (some (ops,⟨some d,.field s x i,ty,pos,af,g⟩::rest)) k ⟨N,vs,ds⟩ Hs R:=
 X.val U hn hw (λa w he _=>by
  have e1:=aO he hx;obtain⟨fs,f,h1,h2,h3,h4,_,h6⟩:=hf.out;obtain⟨h7,h8⟩:=Ch hl;have e2:(cs.drop off).take sz=l:=by
   apply dP
   grind
  subst h3;simp[execOp,e1,Instr.field,bC h1,h2,asAgg,part,iY h6,iR h4,e2]) h
theorem bd2{i:Nat}[hf:TF P s i off sz false](hw:aJ ops vs ⟨some d,.field s x i,ty,pos,af,g⟩=some true)(hn:aH d N=true)(hx:eo vs x=some (.agg cs.toArray))(hl:cs[off]?=some v)(h:X P b β (some (ops,rest)) k ⟨N,(d,v)::vs,ds⟩ Hs R):X P b β (some (ops,⟨some d,.field s x i,ty,pos,af,g⟩::rest)) k ⟨N,vs,ds⟩ Hs R:=
 X.val U hn hw (λa w he _=>by
  have e1:=aO he hx;obtain⟨fs,f,h1,h2,h3,h4,_,h6⟩:=hf.out;subst h3;simp[execOp,e1,Instr.field,bC h1,h2,asAgg,part,iY h6,hl]) h
theorem X.fa{i:Nat}{ag:Bool}[hf:TF P s i off sz ag](hw:aJ ops vs ⟨some d,.fieldAddr s x i,ty,pos,af,g⟩=some true)(hn:aH d N=true)(hx:eo vs x=some (.pointer (some ⟨bl,o,none⟩)))(h:X P b β (some (ops,rest)) k ⟨N,(d,.pointer (some ⟨bl,o+off,none⟩))::vs,ds⟩ Hs R):X P b β (some (ops,⟨some d,.fieldAddr s x i,ty,pos,af,g⟩::rest)) k ⟨N,vs,ds⟩ Hs R:=
 X.val U hn hw (λa w he _=>by
  have e1:=aO he hx;obtain⟨fs,f,h1,h2,h3,h4,h5,h6⟩:=hf.out;subst h3;simp[execOp,e1,Instr.fieldAt,bC h1,h2,eM,fieldPlace,iR h4,h5,addr_add]) h
theorem be5{rs:List az}[ht:TA P t false](hw:aJ ops vs ⟨some d,.load t x,ty,pos,af,g⟩=some true)(hn:aH d N=true)(hx:eo vs x=some (.pointer (some ⟨bl,o,none⟩)))[hf:FB Hs bl bt cs rs](hv:cs[o]?=some v)(h:X P b β (some (ops,rest)) k ⟨N,(d,v)::vs,ds⟩ Hs R):X P b β (some (ops,⟨some d,.load t x,ty,pos,af,g⟩::rest)) k ⟨N,vs,ds⟩ Hs R:=
 X.val U hn hw (λa w he hs=>by
  have e1:=aO he hx;simp[execOp,e1,A8 (t:=t) hs hf.out hv]) h
theorem bb9{rs:List az}[ht:TA P t true][hz:iI P t n](hw:aJ ops vs ⟨some d,.load t x,ty,pos,af,g⟩=some true)(hn:aH d N=true)(hx:eo vs x=some (.pointer (some ⟨bl,o,none⟩)))[hf:FB Hs bl bt cs rs](hv:JC o n cs=some l)(h:X P b β (some (ops,rest)) k ⟨N,(d,.agg l.toArray)::vs,ds⟩ Hs R):X P b β (some (ops,⟨some d,.load t x,ty,pos,af,g⟩::rest)) k ⟨N,vs,ds⟩ Hs R:=
 X.val U hn hw (λa w he hs=>by
  have e1:=aO he hx;simp[execOp,e1,Bc (t:=t) (n:=n) hs hf.out hv]) h
theorem X.st[hk:Kt.nU k]{JA:List Value}{rs:List az}[hz:iI P t n](hw:aJ ops vs ⟨none,.store t x y,ty,pos,af,g⟩=some true)(hx:eo vs x=some (.pointer (some ⟨bl,o,none⟩)))(hy:eo vs y=some v)[hf:FB Hs bl bt cs rs](hl:cl v=some l)(h1:l.length=n)(h2:mB l=true)(h3:Fz o cs l=some JA)(h:X P b β (some (ops,rest)) k ⟨N,vs,ds⟩ (bx bl bt JA::rs) R):X P b β (some (ops,⟨none,.store t x y,ty,pos,af,g⟩::rest)) k ⟨N,vs,ds⟩ Hs R:=
 Jq U hw (λa w he hs=>by
  have e1:=aO he hx;have e2:=aO he hy;obtain⟨w',h4,h5⟩:=Sat.store (P:=P) (t:=t) (n:=n) hs hf.out hl h1 h2 h3;exact⟨w',by simp[execOp,e1,e2,h4],h5⟩) h
theorem jC[hk:Kt.nU k][hz:TZ P t zs](hw:aJ ops vs ⟨some d,.alloc t,ty,pos,af,g⟩=some true)(hn:aH d N=true)(h:∀bl,X P b β (some (ops,rest)) k ⟨N,(d,.pointer (some ⟨bl,0,none⟩))::vs,ds⟩ (bx bl t zs::Hs) R):X P b β (some (ops,⟨some d,.alloc t,ty,pos,af,g⟩::rest)) k ⟨N,vs,ds⟩ Hs R:=
 ly (v:=λbl=>.pointer (some ⟨bl,0,none⟩)) (Hs':=λbl=>bx bl t zs::Hs) U hn hw (λa w he hs=>by
  obtain⟨z,h1,h2⟩:=uz (P:=P) (w:=w) hz.out;refine⟨w.heap.size,_,?_,hs.alloc (.cells zs.toArray t (0,0))⟩;simp[execOp,Instr.alloc,h1,newVar,newRow,h2]) h
theorem X.box[hk:Kt.nU k](hw:aJ ops vs ⟨some d,.box t x,ty,pos,af,g⟩=some true)(hn:aH d N=true)(hx:eo vs x=some v)(hl:cl v=some l)(h:∀bl,X P b β (some (ops,rest)) k ⟨N,(d,.pointer (some ⟨bl,0,none⟩))::vs,ds⟩ (bx bl t l::Hs) R):X P b β (some (ops,⟨some d,.box t x,ty,pos,af,g⟩::rest)) k ⟨N,vs,ds⟩ Hs R:=
 ly (v:=λbl=>.pointer (some ⟨bl,0,none⟩)) (Hs':=λbl=>bx bl t l::Hs) U hn hw (λa w he hs=>by
  have e1:=aO he hx;have e2:=PB hl;refine⟨w.heap.size,_,?_,hs.alloc (.cells l.toArray t (0,0))⟩;simp[execOp,Instr.box,e1,newVar,newRow,e2]) h
def cb(Q:Value->List az->Prop):Ending->List az->Prop
 |.returned v,B=>Q v B
 |_,_=>False
theorem yj[hk:Kt.nU k]{G:bZ}(hG:G.on β)(rH:CF P f){c:Call}{args:Array Value}{R':Ending->List az->Prop}(hT:TR P G f args A R')(hw:aJ ops vs ⟨some d,.call c,ty,pos,af,g⟩=some true)(hn:aH d N=true)(hr:∀a,fU ⟨N,vs,ds⟩ a->∀w,(do let d<-resolve a.eval c ty;invoke d.target d.args).run P w=(callFunc f args).run P w)(hA:aN Hs (A++F))(hp:∀ch B,R' (.panicked ch) B->∀a w,fU ⟨N,vs,ds⟩ a->Sat β (B++F) w->QK P b β k R (.panic ch) a w)(ho:∀B,¬R' .outgrown B)(h:∀v B,R' (.returned v) B->X P b β (some (ops,rest)) k ⟨N,(d,v)::vs,ds⟩ (B++F) R):
 X P b β (some (ops,⟨some d,.call c,ty,pos,af,g⟩::rest)) k ⟨N,vs,ds⟩ Hs R:=by
 intro hb a w he hs
 obtain⟨β',hβ,vV,nL⟩:=jH (hs.cd hA)
 have hc:=hT β' w (G.mono hβ hG) vV
 have hex:(execOp a.eval ⟨some d,.call c,ty,pos,af,g⟩).run P w=.ok (.enter f args) w:=by
  have:=hr a he w;simp only[execOp];rw[this,rH.out]
 refine WL.cd (kD (E:=⟨N,vs,ds⟩) he hw) hex hc ?_ ?_ ?_
 ·exact bt5
 ·rintro ch w' ⟨B,hB,zU⟩
  grind
 ·rintro w' ⟨B,hB,zU⟩
  grind
theorem ei[hk:Kt.nU k]{G:bZ}(hG:G.on β){xs:List Operand}{us:List Value}(hT:TR P G f us.toArray A (cb Q))[rH:CF P f](hw:aJ ops vs ⟨some d,.call ⟨.value (.func f),xs.toArray,qW⟩,ty,pos,af,g⟩=some true)(hn:aH d N=true)(hx:nk vs xs=some us)(hA:aN Hs (A++F))(h:∀v B,Q v B->X P b β (some (ops,rest)) k ⟨N,(d,v)::vs,ds⟩ (B++F) R):
 X P b β (some (ops,⟨some d,.call ⟨.value (.func f),xs.toArray,qW⟩,ty,pos,af,g⟩::rest)) k ⟨N,vs,ds⟩ Hs R:=
 yj hG rH hT hw hn (λa he w=>by
  have h1:=kO he hx
  have h2:xs.toArray.map a.eval=us.toArray:=bE
  have h3:a.eval (.func f)=.func (.func f) #[] #[]:=U
  grind [resolve,Deferred.ofValue,invoke]) hA (λ_ _ hq=>hq.elim) (λ_ hq=>hq) h
theorem gW[hk:Kt.nU k]{G:bZ}(hG:G.on β){xs:List Operand}{us fst cap:List Value}(hT:TR P G f (fst++us++cap).toArray A (cb Q))[rH:CF P f](hw:aJ ops vs ⟨some d,.call ⟨.value (.tmp t),xs.toArray,qW⟩,ty,pos,af,g⟩=some true)(hn:aH d N=true)(ht:lk vs t=some (.func (.func f) fst.toArray cap.toArray))(hx:nk vs xs=some us)(hA:aN Hs (A++F))(h:∀v B,Q v B->X P b β (some (ops,rest)) k ⟨N,(d,v)::vs,ds⟩ (B++F) R):
 X P b β (some (ops,⟨some d,.call ⟨.value (.tmp t),xs.toArray,qW⟩,ty,pos,af,g⟩::rest)) k ⟨N,vs,ds⟩ Hs R:=
 yj hG rH hT hw hn (λa he w=>by
  have h1:=kO he hx
  have h2:xs.toArray.map a.eval=us.toArray:=bE
  have h3:a.eval (.tmp t)=.func (.func f) fst.toArray cap.toArray:=aO (x:=.tmp t) he ht
  grind [resolve,Deferred.ofValue,invoke]) hA (λ_ _ hq=>hq.elim) (λ_ hq=>hq) h
theorem X.exit{id:Nat}{k k':List Item}(hk:exitTo id k=some k')(h:X P b β none (.it k') E Hs R):X P b β none (.it (.code (.exit id)::k)) E Hs R:=
 λhb=>SR.exit hk (h hb)
theorem X.cond{k:List Item}{c:Operand}{x y:Code}{t:Bool}(hc:eo vs c=some (.bool t))(h1:t=true->X P b β none (.it (.code x::k)) ⟨N,vs,ds⟩ Hs R)(h2:t=false->X P b β none (.it (.code y::k)) ⟨N,vs,ds⟩ Hs R):
 X P b β none (.it (.code (.cond c x y)::k)) ⟨N,vs,ds⟩ Hs R:=
 λhb=>SR.cond (E:=⟨N,vs,ds⟩) (by rw[<-sF];exact hc) (λh=>h1 h hb) (λh=>h2 h hb)
theorem HM{k:List Item}{c:Operand}{x y:Code}(hc:eo vs c=some (.bool true))(h1:X P b β none (.it (.code x::k)) ⟨N,vs,ds⟩ Hs R):X P b β none (.it (.code (.cond c x y)::k)) ⟨N,vs,ds⟩ Hs R:=
 X.cond hc (λ_=>h1) (λh=>by cases h)
theorem Cd{k:List Item}{c:Operand}{x y:Code}(hc:eo vs c=some (.bool false))(h1:X P b β none (.it (.code y::k)) ⟨N,vs,ds⟩ Hs R):X P b β none (.it (.code (.cond c x y)::k)) ⟨N,vs,ds⟩ Hs R:=
 X.cond hc (λh=>by cases h) (λ_=>h1)
theorem X.less{zH:List (Nat×Value)}(h:X P b β c k ⟨N,zH,ds⟩ Hs' R)(hv:Sub zH vs)(hH:aN Hs Hs'):X P b β c k ⟨N,vs,ds⟩ Hs R:=by
 intro hb;have:=h hb;cases c with
 |none=>exact λa w he hs=>this a w (fU.less (E:=⟨N,vs,ds⟩) he U U hv) (hs.cd hH)
 |some c=>exact λa w he hs=>this a w (he.less U U hv) (hs.cd hH)
theorem X.cd(hH:aN Hs Hs')(h:X P b β c k E Hs' R):X P b β c k E Hs R:=by
 intro hb;have:=h hb;cases c with
 |none=>exact λa w he hs=>this a w he (hs.cd hH)
 |some c=>exact λa w he hs=>this a w he (hs.cd hH)
theorem X.loop{k:List Item}{ι:Type}(st:ι->List (Nat×Value)×List az)(μ:ι->Nat)(i₀:ι){c:Code}
 (h0:Sub (st i₀).1 vs)(hH:aN Hs (st i₀).2)
 (body:∀i,(∀i',μ i'<μ i->X P b β none (.it (.inLoop c::k)) ⟨N,(st i').1,ds⟩ (st i').2 R)->X P b β none (.it (.code c::.inLoop c::k)) ⟨N,(st i).1,ds⟩ (st i).2 R):
 X P b β none (.it (.code (.loop c)::k)) ⟨N,vs,ds⟩ Hs R:=
 λhb=>SR.loop (E:=⟨N,vs,ds⟩) st μ i₀ h0 hH λi ih=>body i (λi' tV _=>ih i' tV) hb
def Q9(tmps:Array Value):ResultVar->Sem Value
 |.tmp t=>pure (tmps.getD t undef)
 |.cell a t=>do loadVar t (<-asAddr (tmps.getD a undef))
def jK(P:Program)(E:Env)(Hs:List az)(rs:List ResultVar)(l:List Value):Prop:=
 ∀β a w,fU E a->Sat β Hs w->(rs.mapM (Q9 a.tmps)).run P w=.ok l w
def aV4(vs:List (Nat×Value)):List ResultVar->Option (List Value)
 |[]=>some []
 |.tmp t::r=>match lk vs t with
  |none=>none
  |some v=>match aV4 vs r with
   |none=>none
   |some l=>some (v::l)
 |.cell _ _::_=>none
theorem jK.nil:jK P E Hs [] []:=λ_ _ _ _ _=>rfl
theorem jK.tmp(hv:lk E.vs t=some v)(h:jK P E Hs rs l):jK P E Hs (.tmp t::rs) (v::l):=by
 intro β a w he hs;have h1:a.tmps.getD t undef=v:=rN (x:=.tmp t) he hv;simp only[List.mapM_cons,aU,Q9,bN,aC,h β a w he hs,h1]
theorem jK.tmps:∀{rs:List ResultVar} {l:List Value},aV4 E.vs rs=some l->jK P E Hs rs l
 |[],l,h=>by cases h;exact jK.nil
 |.tmp t::r,l,h=>by
  simp only[aV4]at h;split at h
  ·cases h
  ·rename_i v hv;split at h
   ·cases h
   ·rename_i l' hl;cases h;exact jK.tmp hv (jK.tmps hl)
 |.cell _ _::_,l,h=>by cases h
theorem jK.cell{c:Nat}(hc:lk E.vs c=some (.pointer (some ⟨bl,o,none⟩)))[ht:TA P t false][hf:FB Hs bl bt cs rr](hv:cs[o]?=some v)(h:jK P E Hs rs l):jK P E Hs (.cell c t::rs) (v::l):=by
 intro β a w he hs
 have h1:a.tmps.getD c undef=.pointer (some ⟨bl,o,none⟩):=rN (x:=.tmp c) he hc
 have h2:=A8 (P:=P) (t:=t) hs hf.out hv
 simp only[iO,eM,aU,bN,aC]at h2
 simp only[List.mapM_cons,aU,Q9,asAddr,bN,aC,h β a w he hs,h1,h2]
theorem jK.gX{c:Nat}{m:List Value}(hc:lk E.vs c=some (.pointer (some ⟨bl,o,none⟩)))[ht:TA P t true][hz:iI P t n][hf:FB Hs bl bt cs rr](hv:JC o n cs=some m)(h:jK P E Hs rs l):jK P E Hs (.cell c t::rs) (.agg m.toArray::l):=by
 intro β a w he hs
 have h1:a.tmps.getD c undef=.pointer (some ⟨bl,o,none⟩):=rN (x:=.tmp c) he hc
 have h2:=Bc (P:=P) (t:=t) (n:=n) hs hf.out hv
 simp only[iO,eM,aU,bN,aC]at h2
 simp only[List.mapM_cons,aU,Q9,asAddr,bN,aC,h β a w he hs,h1,h2]
def lx:List Value->Value
 |[v]=>v
 |l=>.tuple l.toArray
theorem mO{fn:Func}{tmps:Array Value}{w:World}(h:(fn.results.toList.mapM (Q9 tmps)).run P w=.ok l w):(results fn tmps).run P w=.ok (lx l) w:=by
 have e:results fn tmps=(do let vs<-fn.results.mapM (Q9 tmps);pure (if h:vs.size=1 then vs[0]else .tuple vs)):=by
  unfold results;congr 1
 rw[e,Array.mapM_eq_mapM_toList];simp only[aU,Sem.run_map,h,aC,bN];congr 1;match l with
 |[]=>simp[lx]
 |[v]=>simp[lx]
 |v::u::r=>simp[lx]
theorem X.ret{k:List Item}(l9:mi b f)[hf:FR P f rs](hl:jK P ⟨N,vs,[]⟩ Hs rs l)(h:∃B,R (.returned (lx l)) B/\aN Hs B):X P b β none (.it (.code .ret::k)) ⟨N,vs,[]⟩ Hs R:=by
 intro hb;obtain⟨fn,h1,rfl⟩:=hf.out;obtain⟨B,h2,h3⟩:=h;exact SR.ret (E:=⟨N,vs,[]⟩) l9.ro FQ hb U λa w he hs=>⟨_,mO (hl β a w he hs),⟨B,h2,hs.cd h3⟩⟩
theorem X.fin(l9:mi b f)[hf:FR P f rs](hl:jK P ⟨N,vs,[]⟩ Hs rs l)(h:∃B,R (.returned (lx l)) B/\aN Hs B):X P b β none (.it []) ⟨N,vs,[]⟩ Hs R:=by
 intro hb;obtain⟨fn,h1,rfl⟩:=hf.out;obtain⟨B,h2,h3⟩:=h;exact SR.fin (E:=⟨N,vs,[]⟩) l9.ro FQ hb U λa w he hs=>⟨_,mO (hl β a w he hs),⟨B,h2,hs.cd h3⟩⟩
def ym:Nat->List Value->List (Nat×Value)
 |_,[]=>[]
 |i,v::r=>(i,v)::ym (i+1) r
theorem JD:∀(l:List Value) (i:Nat),ym i l=(l.zipIdx i).map fun(v,i)=>(i,v)
 |[],_=>rfl
 |v::r,i=>by simp[ym,JD r]
theorem TR.go{G:bZ}{c:Code}[hf:FC P f n c]{us:List Value}(hn:us.length<=n)(h:∀b β,mi b f->G.on β->X P b β none (.it [.code c]) ⟨n,ym 0 us,[]⟩ A R):TR P G f us.toArray A R:=by
 obtain⟨fn,h1,rfl,h3⟩:=hf.out
 refine TR.enter h1 h3 (ym 0 us) (by rw[JD];exact λ_ _ h=>h) λb β hb1 Ra hG=>?_
 have:=h b β hb1 hG Ra
 have e:us.toArray.size+(fn.ntmps - us.toArray.size)=fn.ntmps:=bB
 rw[e]
 exact this
end
structure Rp(α:Type) where
 h:Hp->List Value->α->Prop
 mono:∀{r r' l x},Hp.le r r'->h r l x->h r' l x
def BS(r:Hp)(b o:Nat)(l:List Value):Prop:=∃cs ty fr,r b=some (.cells cs ty fr)/\∀(j:Nat) (v:Value),l[j]?=some v->cs[o+j]?=some v
theorem BS.mono{r':Hp}{b:Nat}(hr:Hp.le r r')(h:BS r b o l):BS r' b o l:=
 let⟨cs,ty,fr,h1,h2⟩:=h;⟨cs,ty,fr,hr _ _ h1,h2⟩
def vW{α:Type}(R:Rp α)(sz:Nat)(a:Option Addr)(xs:List α)(r:Hp):Prop:=
 xs=[]\/∃b o,a=some ⟨b,o,none⟩/\∀(i:Nat) (x:α),xs[i]?=some x->∃l,l.length=sz/\BS r b (o+i*sz) l/\R.h r l x
theorem vW.mono{α:Type}{R:Rp α}{xs:List α}{r':Hp}(hr:Hp.le r r')(h:vW R sz a xs r):vW R sz a xs r':=by
 rcases h with h|⟨b,o,h1,h2⟩
 ·exact .inl h
 ·exact .inr ⟨b,o,h1,λi x hx=>let⟨l,h3,h4,h5⟩:=h2 i x hx;⟨l,h3,h4.mono hr,R.mono hr h5⟩⟩
def bV{α:Type}(R:Rp α)(sz:Nat)(a:Option Addr)(xs:List α):az:=ro (vW R sz a xs)
def el{α:Type}(R:Rp α)(sz b o:Nat)(x:α):az:=ro (λr=>∃l,l.length=sz/\BS r b o l/\R.h r l x)
def bp{α:Type}(bo:α->List Value):Rp α:=⟨λ_ l x=>l=bo x,λ_ h=>h⟩
def fO(x:UInt8):Value:=.int .u8 x.toNat
@[reducible] def RB:Rp UInt8:=bp λx=>[fO x]
class zI(Hs:List az)(a:Option Addr){α:outParam Type}(R:outParam (Rp α))(sz:outParam Nat)(xs:outParam (List α)):Prop where out:∃rest,aN Hs (bV R sz a xs::rest)
instance zI.here{α:Type}(R:Rp α)(sz:Nat)(a:Option Addr)(xs:List α)(Hs:List az):zI (bV R sz a xs::Hs) a R sz xs:=⟨Hs,aN.refl _⟩
instance(priority:=low) zI.there(p:az)(Hs:List az){α:Type}(R:Rp α)(sz:Nat)(a:Option Addr)(xs:List α)[h:zI Hs a R sz xs]:zI (p::Hs) a R sz xs:=
 let⟨rest,hr⟩:=h.out;⟨p::rest,(aN.cons p hr).trans (cQ _ _ _)⟩
class C2(Hs:List az)(b:Nat){α:outParam Type}(R:outParam (Rp α))(sz o:outParam Nat)(x:outParam α):Prop where out:∃rest,aN Hs (el R sz b o x::rest)
instance C2.here{α:Type}(R:Rp α)(sz b o:Nat)(x:α)(Hs:List az):C2 (el R sz b o x::Hs) b R sz o x:=⟨Hs,aN.refl _⟩
instance(priority:=low) C2.there(p:az)(Hs:List az){α:Type}(R:Rp α)(sz b o:Nat)(x:α)[h:C2 Hs b R sz o x]:C2 (p::Hs) b R sz o x:=
 let⟨rest,hr⟩:=h.out;⟨p::rest,(aN.cons p hr).trans (cQ _ _ _)⟩
theorem il{Hs rest:List az}{q:Hp->Prop}(h:aN Hs (ro p::rest))(hpq:∀r,p r->q r):aN Hs (ro q::Hs):=by
 intro r o hs;obtain⟨o1,o2,_,_,_,hp,_⟩:=h r o hs;exact⟨fL,o,cR _,cJ _,.refl _,λr' nG=>hpq r' (hp r' nG),hs⟩
theorem BS.cell{w:World}{b:Nat}(h:BS (hp w) b o l)(hv:l[j]?=some v):w.cell? ⟨b,o+j,none⟩=some v:=by
 obtain⟨cs,ty,fr,h1,h2⟩:=h
 have h1':w.heap[b]?=some (.cells cs ty fr):=h1
 grind [gj]
section
variable{P:Program}{vs:List (Nat×Value)}{rest:List Oper}
theorem cH[hk:Kt.nU k]{α:Type}{Re:Rp α}{c:Nat}{i:Operand}{xs:List α}[ht:px P t e][hz:iI P e sz](hw:aJ ops vs ⟨some d,.indexAddr t x i,ty,pos,af,g⟩=some true)(hn:aH d N=true)(hx:eo vs x=some (.slice a n c))(hi:eo vs i=some (.int kk m))[hf:zI Hs a Re sz xs](hm:m=(j:Int))(hj:j<xs.length)(hl:xs.length=n)(h:∀bl o,X P b β (some (ops,rest)) k ⟨N,(d,.pointer (some ⟨bl,o,none⟩))::vs,ds⟩ (el Re sz bl o xs[j]::Hs) R):
 X P b β (some (ops,⟨some d,.indexAddr t x i,ty,pos,af,g⟩::rest)) k ⟨N,vs,ds⟩ Hs R:=
 ly (ι:=Nat×Nat) (v:=λp=>.pointer (some ⟨p.1,p.2,none⟩)) (Hs':=λp=>el Re sz p.1 p.2 xs[j]::Hs) U hn hw (λact w he hs=>by
  have e1:=aO he hx
  have e2:=aO he hi
  obtain⟨rr,hr⟩:=hf.out
  have h1:vW Re sz a xs (hp w):=Sat.ro (hs.cd hr)
  rcases h1 with h1|⟨bl,o,rfl,h2⟩
  ·grind
  ·refine⟨(bl,o+j*sz),w,?_,hs.cd (il hr λr h3=>?_)⟩
   ·subst hm;have h5:j<n:=av;simp[execOp,e1,e2,Instr.indexAt,asIntOf,bC ht.out,iR hz.out,h5,addr_add]
   ·rcases h3 with h3|⟨bl',o',h3,h4⟩
    ·grind
    simp_all) λp=>h p.1 p.2
theorem Pr{α:Type}{bo:α->List Value}{y:α}[ht:TA P t false](hw:aJ ops vs ⟨some d,.load t x,ty,pos,af,g⟩=some true)(hn:aH d N=true)(hx:eo vs x=some (.pointer (some ⟨bl,o,none⟩)))[hf:C2 Hs bl (bp bo) sz o y](hv:(bo y)[0]?=some v)(h:X P b β (some (ops,rest)) k ⟨N,(d,v)::vs,ds⟩ Hs R):X P b β (some (ops,⟨some d,.load t x,ty,pos,af,g⟩::rest)) k ⟨N,vs,ds⟩ Hs R:=
 X.val U hn hw (λa w he hs=>by
  have e1:=aO he hx;obtain⟨rr,hr⟩:=hf.out;obtain⟨l,h1,h2,h3⟩:=Sat.ro (hs.cd hr);have M6:l=bo y:=h3;subst M6;have h4:=h2.cell hv;have hg:=iY (P:=P) (w:=w) ht.out;simp only[Nat.add_zero]at h4;simp[execOp,e1,iO,eM,loadVar,hg,h4]) h
end
theorem wrap_u32(n:Nat)(h:n<4294967296):dK.wrap (n:Int)=n:=by
 grind [ic,iW,gy]
theorem wrap_u8(n:Nat)(h:n<256):cC.wrap (n:Int)=n:=by
 grind [ic,iW,gy]
theorem wrap_u64(n:Nat)(h:n<18446744073709551616):cN.wrap (n:Int)=n:=by
 grind [ic,iW,gy]
theorem ac4(x:UInt32):BitVec.ofInt 32 (x.toNat:Int)=x.toBitVec:=by
 simp_all
theorem HT(x y:UInt32):dK.wrap ((BitVec.ofInt dK.bits (x.toNat:Int)^^^BitVec.ofInt dK.bits (y.toNat:Int)).toNat:Int)=((x^^^y).toNat:Int):=by
 show dK.wrap ((BitVec.ofInt 32 (x.toNat:Int)^^^BitVec.ofInt 32 (y.toNat:Int)).toNat:Int)=_;rw[ac4,ac4,wrap_u32 _ (BitVec.isLt _)];rfl
theorem PC(x y:UInt32):dK.wrap ((BitVec.ofInt dK.bits (x.toNat:Int)&&&BitVec.ofInt dK.bits (y.toNat:Int)).toNat:Int)=((x&&&y).toNat:Int):=by
 show dK.wrap ((BitVec.ofInt 32 (x.toNat:Int)&&&BitVec.ofInt 32 (y.toNat:Int)).toNat:Int)=_;rw[ac4,ac4,wrap_u32 _ (BitVec.isLt _)];rfl
theorem PE(x:UInt32):dK.wrap ((BitVec.ofInt dK.bits (if dK.signed=true then -1 else dK.max)^^^BitVec.ofInt dK.bits (x.toNat:Int)).toNat:Int)=((~~~ x).toNat:Int):=by
 have h:=HT 4294967295 x;have e:(4294967295:UInt32)^^^x= ~~~ x:=by
  apply UInt32.eq_of_toBitVec_eq;show(4294967295#32)^^^x.toBitVec= ~~~ x.toBitVec;rw[show(4294967295#32)=BitVec.allOnes 32 from rfl,BitVec.allOnes_xor]
 rw[e]at h;exact h
theorem JE(x:UInt8):dK.wrap (x.toNat:Int)=(x.toUInt32.toNat:Int):=by
 rw[wrap_u32 _ (by have:=x.toNat_lt;omega)];simp
theorem ac5(x:UInt32):dK.wrap (0 - (x.toNat:Int))=((0 - x).toNat:Int):=by
 have h:=x.toNat_lt;simp[ic,iW,gy,UInt32.toNat_neg,UInt32.size];omega
theorem ac6(x:UInt32)(n:Nat)(h:n<32):((x.toNat:Int).fdiv (2^(min ((n:Int)).toNat dK.bits)))=((x>>>(gz n)).toNat:Int):=by
 have e:min ((n:Int)).toNat dK.bits=n:=by grind [gy]
 rw[e,Int.fdiv_eq_ediv_of_nonneg _ (Int.pow_nonneg de)];simp[UInt32.toNat_shiftRight,Nat.shiftRight_eq_div_pow];rw[Nat.mod_eq_of_lt h]
def ac7(e sz:Nat)(v:Value)(n:Nat)(xs:List Value)(o:Hp):Prop:=
 xs.length=n*sz/\((v=.slice none 0 0/\n=0)\/
  ∃g cap cur,v=.slice (some ⟨g,0,none⟩) n cap/\o g=some (.cells cur e (0,0))/\n<=cap/\cap<=maxLen/\cap*sz<=cur.size/\cur.toList.take (n*sz)=xs)
theorem ac7.mono{o o':Hp}(ho:Hp.le o o')(h:ac7 e sz v n xs o):ac7 e sz v n xs o':=by
 obtain⟨h1,h2|⟨g,cap,cur,h2,h3,h4⟩⟩:=h
 ·exact⟨h1,.inl h2⟩
 ·exact⟨h1,.inr ⟨g,cap,cur,h2,ho _ _ h3,h4⟩⟩
def own(e sz:Nat)(a:Option Addr)(n c:Nat)(xs:List Value):az:=⟨λ_ o=>ac7 e sz (.slice a n c) n xs o,λ_ ho h=>h.mono ho⟩
def VS(Hs Hs':List az):Prop:=∀β w,Sat β Hs w->Sat β Hs' w
theorem VS.of{Hs:List az}(h:aN Hs Hs'):VS Hs Hs':=λ_ _ hs=>hs.cd h
theorem VS.refl(Hs:List az):VS Hs Hs:=λ_ _ h=>h
theorem VS.trans{a b c:List az}(h:VS a b)(k:VS b c):VS a c:=λβ w e=>k β w (h β w e)
theorem br8{A':List az}(h:VS A A')(F:List az):VS (A++F) (A'++F):=λβ w hs=>by
 obtain⟨β',_,h1,h2⟩:=jH hs;exact h2 _ _ (h _ _ h1)
theorem Sat.os{β:bS}{Hs:List az}{w:World}(h:Sat β Hs w):wH β.q β.w w:=let⟨_,_,_,_,_,h4⟩:=h;h4
theorem zM{β:bS}{Hs:List az}{w w':World}{g:Nat}{x y:Obj}(h:Sat β (Sl.pt g x::Hs) w)(hg:w.grownBy w' (some g))(hd0:w.drawn<=w'.drawn)(hb:w'.heap[b']?=some y)(hb':b'=g\/w.heap.size<=b'):
 Sat β (Sl.pt b' y::Hs) w':=by
 obtain⟨r,o,h0,hf,⟨o1,o2,hd,h1,h2,kL,iz⟩,pf⟩:=h
 have M3:o1 g=some x:=kL
 have hog:o g=some x:=h1 _ _ M3
 have hle:∀{q:Hp},Hp.le q (hp w)->q g=none->Hp.le q (hp w'):=by
  intro q hq hqg n z hn
  by_cases e:n=g
  ·grind
  ·have h3:=hq _ _ hn;have h4:=hg.block n (Jy h3) (by simp[e]);exact aM9
 have tF:∀{q:Hp},Hp.le q (hp w)->q g=none->q b'=none:=by
  intro q hq hqg;rcases hb' with rfl|hb'
  ·exact hqg
  ·exact aF9
 have jD:∀{q:Hp},q b'=none->lA (Hp.one b' y) q:=by
  intro q hq n
  grind [Hp.one]
 have Jz:Hp.le (Hp.one b' y) (hp w'):=aD5
 have hr:r g=none:=by rcases hf.ro g with h|h;all_goals grind
 have PA:β.f g=none:=by rcases hf.of g with h|h;all_goals grind
 have ZR:o2 g=none:=by rcases hd g with h|h;all_goals grind
 have ho2:Hp.le o2 (hp w):=h2.trans hf.o
 refine⟨r,kN (Hp.one b' y) o2,h0,⟨hle hf.r hr,kM Jz (hle ho2 ZR),hle hf.f PA,?_,hf.rf,?_⟩,?_,pf.trans ⟨hg.os,hg.tape,hg.output,hg.size,λ_=>hd0⟩⟩
 ·exact(gI (jD (tF hf.r hr)) (hf.ro.mono (.refl _) h2).symm).symm
 ·exact gI (jD (tF hf.f PA)) (hf.of.mono h2 (.refl _))
 ·exact⟨Hp.one b' y,o2,jD (tF ho2 ZR),fT _ _,fh (jD (tF ho2 ZR)),by show Hp.one _ _ _=_;simp[Hp.one],iz⟩
theorem MH{β:bS}{Hs:List az}{w w':World}{y:Obj}(h:Sat β Hs w)(hg:w.grownBy w' none)(hd0:w.drawn<=w'.drawn)(hb:w'.heap[b']?=some y)(hb':w.heap.size<=b'):
 Sat β (Sl.pt b' y::Hs) w':=by
 obtain⟨r,o,h0,hf,iz,pf⟩:=h
 have hle:∀{q:Hp},Hp.le q (hp w)->Hp.le q (hp w'):=by
  intro q hq n z hn;have h3:=hq _ _ hn;have h4:=hg.block n (Jy h3) nH;exact aM9
 have tF:∀{q:Hp},Hp.le q (hp w)->q b'=none:=by
  intro q hq;exact aF9
 have jD:∀{q:Hp},q b'=none->lA (Hp.one b' y) q:=by
  intro q hq n
  grind [Hp.one]
 have Jz:Hp.le (Hp.one b' y) (hp w'):=aD5
 refine⟨r,kN (Hp.one b' y) o,h0,⟨hle hf.r,kM Jz (hle hf.o),hle hf.f,?_,hf.rf,?_⟩,?_,pf.trans ⟨hg.os,hg.tape,hg.output,hg.size,λ_=>hd0⟩⟩
 ·exact(gI (jD (tF hf.r)) hf.ro.symm).symm
 ·exact gI (jD (tF hf.f)) hf.of
 ·exact⟨Hp.one b' y,o,jD (tF hf.o),fT _ _,fh (jD (tF hf.o)),by show Hp.one _ _ _=_;simp[Hp.one],iz⟩
theorem dx{β:bS}{Hs:List az}{w:World}{c:Nat}(h:Sat β (own e sz a n c xs::Hs) w):
 (a=none/\n=0/\c=0/\xs=[]/\Sat β Hs w)\/
 ∃g cur,a=some ⟨g,0,none⟩/\xs.length=n*sz/\n<=c/\c<=maxLen/\c*sz<=cur.size/\cur.toList.take (n*sz)=xs/\Sat β (Sl.pt g (.cells cur e (0,0))::Hs) w:=by
 obtain⟨r,o,h0,hf,⟨o1,o2,hd,h1,h2,kL,iz⟩,pf⟩:=h
 obtain⟨h3,⟨h4,h5⟩|⟨g,cap,cur,h4,h5,h6,h7,h8,h9⟩⟩:=kL
 ·cases h4
  refine .inl ⟨U,U,U,?_,r,o,h0,hf,js Hs (.refl _) h2 iz,pf⟩
  grind
 ·cases h4;exact .inr ⟨g,cur,U,h3,h6,h7,h8,h9,r,o,h0,hf,⟨o1,o2,hd,h1,h2,h5,iz⟩,pf⟩
theorem fK{β:bS}{Hs:List az}{w:World}{g c:Nat}(h:Sat β (Sl.pt g (.cells cur e (0,0))::Hs) w)(h3:xs.length=n*sz)(h6:n<=c)(h7:c<=maxLen)(h8:c*sz<=cur.size)(h9:cur.toList.take (n*sz)=xs):
 Sat β (own e sz (some ⟨g,0,none⟩) n c xs::Hs) w:=by
 obtain⟨r,o,h0,hf,⟨o1,o2,hd,h1,h2,kL,iz⟩,pf⟩:=h
 exact⟨r,o,h0,hf,⟨o1,o2,hd,h1,h2,⟨h3,.inr ⟨g,c,cur,U,kL,h6,h7,h8,h9⟩⟩,iz⟩,pf⟩
theorem iZ{β:bS}{Hs:List az}{w:World}(e sz:Nat)(h:Sat β Hs w):Sat β (own e sz none 0 0 []::Hs) w:=by
 obtain⟨r,o,h0,hf,iz,pf⟩:=h;exact⟨r,o,h0,hf,⟨fL,o,cR _,cJ _,.refl _,⟨by simp,.inl ⟨U,U⟩⟩,iz⟩,pf⟩
theorem Sat.drew{β:bS}{Hs:List az}{w:World}(h:Sat β Hs w):Sat β Hs w.drew:=h.heap U U U U (gk _)
theorem Sat.jP{β:bS}{Hs:List az}{w:World}(h:Sat β Hs w)(x:Obj):Sat β (Sl.pt w.heap.size x::Hs) (w.alloc x):=h.alloc x
theorem Sat.setRow{β:bS}{Hs:List az}{w:World}{g:Nat}{cur':Array Value}{fz:Nat×Nat}(h:Sat β (Sl.pt g (.cells cur e fz)::Hs) w):Sat β (Sl.pt g (.cells cur' e fz)::Hs) (w.setRow g cur'):=by
 refine Sat.put h ⟨U,U,U,by simp[World.setRow],λ_=>ar _⟩ (setRow_heap w g cur _ e _ (dS h)) ?_
 grind [World.setRow]
section
variable{P:Program}
theorem ax3:(140737488355328:Nat)<=maxLen:=by grind [maxLen]
theorem Sat.append{ty c m c2:Nat}{news:List Value}{ad:Addr}(h:Sat β (own e sz a n c xs::Hs) w)[ht:px P t e][hz:iI P e sz][T':yl P e Bg][M7:TZ P e zs](xz:zs.length=sz)(hl:news.length=m*sz)(hn:∀(j:Nat) (u:Value),news[j]?=some u->w.cell? (ad.add j)=some u)(h1:∀u∈news,u.oneCell'=true)(Fg:1<=Bg)(hb:(n+m)*Bg<=140737488355328):
 ∃a' c' w',(Builtin.append_ #[t,t] ty #[.slice a n c,.slice (some ad) m c2]).run P w=.ok (.slice a' (n+m) c') w'/\Sat β (own e sz a' (n+m) c' (xs++news)::Hs) w':=by
 obtain⟨i,hi,yo⟩:=bk.1 hz.out
 have zV:i.bytes=Bg:=by have:=T'.out;rw[hi]at this;simpa using this
 obtain⟨z,hzero,ZS⟩:=bk.1 M7.out
 have sG:i.zero=some z:=by rw[hi]at hzero;simpa using hzero
 subst yo
 have wI:n+m<=140737488355328:=aj (Nat.le_mul_of_pos_right _ Fg) hb
 have M8:n+m<=maxLen:=aj wI ax3
 have h63:((n+m:Nat):Int)<=9223372036854775807:=av
 rcases dx h with⟨rfl,rfl,rfl,rfl,hs⟩|⟨g,cur,rfl,h3,h6,h7,h8,h9,hs⟩
 ·by_cases hm:m=0
  ·subst hm;have:news=[]:=by cases news with|nil=>rfl|cons _ _=>simp at hl
   subst this;refine⟨none,0,w,?_,iZ _ _ hs⟩;have hf:=run_firstCells_some (P:=P) w i.size 0 ad 0 c2 [] nH nH;simp[Builtin.append_,bC ht.out,sizeOf,typeInfo,hi,Builtin.lenOf,hf]
  ·have hr:=run_append_nil (P:=P) w t ty e i z ht.out hi sG ad m c2 news hl hn av av (by rw[zV];simp only[aQ]at hb;omega);simp only[aQ]at M8 ⊢;refine⟨_,_,_,hr,?_⟩;have rn:=grownCap_ge w m 0 e;have hzs:z.cells.size=i.size:=by rw[<-xz,<-ZS];simp
   refine fK (w:=_) (Sat.jP hs.drew _) (by simpa using hl) rn (grownCap_le_maxLen w m 0 e M8) ?_ ?_
   ·refine Nat.le_of_eq (Eq.symm ?_);simp only[Array.size_append,dC,size_zeroCells,hzs,hl];rw[<-fP];congr 1;omega
   ·simp only[Array.toList_append,ai];rw[List.take_append_of_le_length SO,aD SO]
 ·by_cases JF:n+m<=c
  ·have aD8:n*i.size+news.length<=cur.size:=by
    rw[hl,<-fP];exact aj (cX _ JF) h8
   have hr:=run_append_room (P:=P) w t ty e i ht.out hi g n c cur (dS hs) ad m c2 news hl hn h1 JF aD8;refine⟨_,_,_,hr,?_⟩;have hlen:cur.toList.length=cur.size:=nH;refine fK (Sat.setRow hs) ?_ JF h7 ?_ ?_
   ·rw[aG,h3,hl,fP]
   ·simp only[dC,aG,cB,List.length_drop,hlen];omega
   ·rw[<-h9];have e1:(cur.toList.take (n*i.size)).length=n*i.size:=by rw[h9,h3]
    rw[bT];show((cur.toList.take (n*i.size)++(news++cur.toList.drop (n*i.size+news.length)))).take ((n+m)*i.size)=_;rw[<-bT,List.take_append_of_le_length af7];rw[aD af7]
  ·have Bh:∀(j:Nat) (v:Value),xs[j]?=some v->w.cell? ((⟨g,0,none⟩:Addr).add j)=some v:=by
    intro j v hj;rw[addr_add,aQ];have hg:=dS hs;rw[<-h9,List.getElem?_take]at hj;split at hj
    ·have:cur[j]?=some v:=by simpa using hj
     simp[gj,hg,this]
    ·cases hj
   have hr:=run_append_grow (P:=P) w t ty e i z ht.out hi sG ⟨g,0,none⟩ n c xs h3 Bh ad m c2 news hl hn av h63 (by rw[zV];exact growslice_fits av hb);refine⟨_,_,_,hr,?_⟩;have rn:=grownCap_ge w (n+m) c e;have hzs:z.cells.size=i.size:=by rw[<-xz,<-ZS];simp
   have sE:(xs++news).length=(n+m)*i.size:=by rw[aG,h3,hl,fP]
   refine fK (w:=_) (Sat.jP (hs.cd (aN.drop _ _)).drew _) sE rn (grownCap_le_maxLen w (n+m) c e M8) ?_ ?_
   ·refine Nat.le_of_eq (Eq.symm ?_);simp only[Array.size_append,dC,size_zeroCells,hzs,hl,h3];rw[<-fP,<-fP];congr 1;omega
   ·simp only[Array.toList_append];rw[List.take_append_of_le_length (by rw[sE];exact ar _),aD (by rw[sE];exact ar _)]
end
class FO(Hs:List az)(a:Option Addr)(e sz n c:outParam Nat)(xs:outParam (List Value))(rest:outParam (List az)):Prop where out:aN Hs (own e sz a n c xs::rest)
instance FO.here(e sz n c:Nat)(a:Option Addr)(xs:List Value)(Hs:List az):FO (own e sz a n c xs::Hs) a e sz n c xs Hs:=⟨aN.refl _⟩
instance(priority:=low) FO.there(p:az)(Hs:List az)(a:Option Addr)(e sz n c:Nat)(xs:List Value)(rest:List az)[h:FO Hs a e sz n c xs rest]:FO (p::Hs) a e sz n c xs (p::rest):=
 ⟨(aN.cons p h.out).trans (cQ _ _ _)⟩
def Gi(place:Nat->Option (Nat×Nat))(cells:List Value):List (Nat×Value)->Option (List Value)
 |[]=>some cells
 |(i,v)::r=>match place i,cl v with
  |some (off,size),some l=>match dB l.length size,Fz off cells l with
   |true,some m=>Gi place m r
   |_,_=>none
  |_,_=>none
theorem Gj(off:Nat):∀(l:List Value) (k:Nat) (cs:Array Value),((l.zipIdx k).foldl (λcs (c,j)=>cs.setIfInBounds (off+j) c) cs).toList=(cs.toList.take (off+k)++l++cs.toList.drop (off+k+l.length)).take cs.size\/cs.size<off+k+l.length
 |[],k,cs=>by left;simp;grind [aD]
 |v::r,k,cs=>by
  by_cases h:cs.size<off+k+(v::r).length
  ·right;exact h
  ·left;simp only[ax]at h;rcases Gj off r (k+1) (cs.setIfInBounds (off+k) v)with h1|h1
   ·simp only[List.zipIdx_cons,cY];rw[h1];simp only[Array.size_setIfInBounds,Array.toList_setIfInBounds];congr 1;apply dP;intro j;have hl:off+k<cs.toList.length:=bB;simp only[List.getElem?_append,aG,cB,gB,ax,List.getElem?_take,List.getElem?_drop,List.getElem?_set];have py:min (off+(k+1)) cs.toList.length=off+k+1:=by simp at hl ⊢;omega
    have HU:min (off+k) cs.toList.length=off+k:=by simp at hl ⊢;omega
    rw[py,HU];by_cases j1:j<off+k
    ·have:j<off+k+1:=by omega
     have j2:j<off+(k+1):=av;have j3:¬off+k=j:=av;simp[j1,this,j2,j3,show j<off+k+1+r.length from by omega,show j<off+k+(r.length+1)from by omega]
    ·by_cases j2:j=off+k
     ·subst j2;simp[show off+k<off+(k+1)from by omega,show off+k<off+k+1+r.length from by omega,show off+k<cs.size from by omega]
     ·have j3:¬j<off+k+1:=by omega
      have j5:∃q,j - (off+k)=q+1/\j - (off+k+1)=q:=⟨j - (off+k+1),by omega,U⟩;obtain⟨q,Ua,U'⟩:=j5;by_cases j4:j<off+k+1+r.length
      ·simp[j1,j3,j4,show j<off+k+(r.length+1)from by omega,Ua,U']
      ·have e1:off+(k+1)+r.length+(j - (off+k+1+r.length))=j:=by omega
       have e2:off+k+(r.length+1)+(j - (off+k+(r.length+1)))=j:=av;simp[j4,show ¬j<off+k+(r.length+1)from by omega,e1,e2,show ¬off+k=j from by omega]
   ·simp at h1;omega
theorem yq{place:Nat->Option (Nat×Nat)}:∀{parts:List (Nat×Value)} {cells m:List Value},Gi place cells parts=some m->Instr.fill place cells.toArray parts=some m.toArray
 |[],cells,m,h=>by cases h;rfl
 |(i,v)::r,cells,m,h=>by
  simp only[Gi]at h;split at h
  ·rename_i off size l hp hv;split at h
   ·rename_i m' hb ho;obtain⟨h1,h2⟩:=HS ho;have hlen:l.length=size:=eG hb;have hc:=PB hv;simp only[Instr.fill,hp,hc,dC,hlen,ne_eq,not_true_eq_false,decide_false,Bool.false_or];have h3:¬(off+size>cells.length):=av;simp only[h3,decide_false,bY,if_false];have h4:=Gj off l 0 cells.toArray;simp only[Nat.add_zero]at h4;rcases h4 with h4|h4
    ·have h5:(l.toArray.zipIdx.foldl (λcs (c,j)=>cs.setIfInBounds (off+j) c) cells.toArray)=m'.toArray:=by
      apply Array.toList_inj.1;rw[<-Array.foldl_toList];simp only[Array.toList_zipIdx];rw[h4,h2];rw[aD]
      ·simp;omega
     rw[h5];exact yq h
    ·simp at h4;omega
   ·cases h
  ·cases h
def ac8:List Value->List Value->Option (List Value)
 |[],m=>some m
 |x::r,m=>match ac8 r m with
  |some q=>some (x::q)
  |none=>none
theorem PF:∀{l m q:List Value},ac8 l m=some q->q=l++m
 |[],m,q,h=>by cases h;rfl
 |x::r,m,q,h=>by
  simp only[ac8]at h;split at h
  ·rename_i q' hq;cases h;rw[PF hq];rfl
  ·cases h
def ac9(zs:List Value):Nat->Option (List Value)
 |0=>some []
 |n+1=>match ac9 zs n with
  |none=>none
  |some l=>ac8 zs l
theorem PG{zs:List Value}:∀{n:Nat} {l:List Value},ac9 zs n=some l->l=(bI n zs).flatten
 |0,l,h=>by cases h;rfl
 |n+1,l,h=>by
  simp only[ac9]at h;split at h
  ·cases h
  ·rename_i m hm;rw[PF h,PG hm,List.replicate_succ,List.flatten_cons]
theorem JG(zs:List Value)(n:Nat):(((Array.range (n*zs.length)).map (λk=>zs.toArray[k%zs.toArray.size]!))).toList=(bI n zs).flatten:=by
 apply dP
 intro j
 have key:∀(n j:Nat),(bI n zs).flatten[j]?=if j<n*zs.length then zs[j%zs.length]? else none:=by
  intro n;induction n with
  |zero=>intro j;simp
  |succ n ih=>
   intro j;rw[List.replicate_succ,List.flatten_cons,List.getElem?_append];by_cases hj:j<zs.length;all_goals grind [Nat.mod_eq_of_lt,Nat.mod_eq_sub_mod]
 grind [Nat.mod_lt]
section
variable{P:Program}{vs:List (Nat×Value)}{rest:List Oper}
def vp(vs:List (Nat×Value)):List (Nat×Operand)->Option (List (Nat×Value))
 |[]=>some []
 |(i,x)::r=>match eo vs x with
  |none=>none
  |some v=>match vp vs r with
   |none=>none
   |some l=>some ((i,v)::l)
theorem sH{a:Act}(h:fU ⟨N,vs,ds⟩ a):∀{l:List (Nat×Operand)} {us:List (Nat×Value)},vp vs l=some us->(l.map fun(i,x)=>(i,a.eval x))=us
 |[],us,e=>by cases e;rfl
 |(i,x)::r,us,e=>by
  simp only[vp]at e;split at e
  ·cases e
  ·rename_i v hv;split at e
   ·cases e
   ·rename_i l hl;cases e;simp[aO h hv,sH h hl]
theorem be9{fs:List (Nat×Nat)}[hf:tG P t fs][hz:TZ P t zs](hw:aJ ops vs ⟨some d,.build t parts.toArray,ty,pos,af,g⟩=some true)(hn:aH d N=true)(hx:vp vs parts=some us)(hl:Gi (λi=>fs[i]?) zs us=some l)(h:X P b β (some (ops,rest)) k ⟨N,(d,.agg l.toArray)::vs,ds⟩ Hs R):X P b β (some (ops,⟨some d,.build t parts.toArray,ty,pos,af,g⟩::rest)) k ⟨N,vs,ds⟩ Hs R:=
 X.val U hn hw (λa w he _=>by
  have e1:=sH he hx;obtain⟨fl,h1,h2⟩:=hf.out;obtain⟨z,h3,h4⟩:=uz (P:=P) (w:=w) hz.out;have h5:=yq hl;have h6:∀(l:List Field) (fs:List (Nat×Nat)),l.map (λf=>(f.offset,(P.info? f.type).map (·.size)))=fs.map (fun(a,b)=>(a,some b))->(l.mapM (m:=Sem) λf=>do pure (f.offset,<-sizeOf f.type)).run P w=.ok fs w:=by
   intro l;induction l with
   |nil=>simp_all
   |cons f r ih=>
    intro fs h;cases fs with
    |nil=>simp at h
    |cons p q=>
     simp only[aK,List.cons.injEq,Prod.mk.injEq]at h;have ih':=ih q h.2;simp only[List.mapM_cons,aU,iR h.1.2,aC,bN,ih',h.1.1]
  have h7:=h6 fl.toList fs h2;have e2:parts.toArray.map (fun(i,x)=>(i,a.eval x))=us.toArray:=bE;simp only[execOp,e2,Instr.build,aU,h3,aC,bN,bC h1,h4,Array.mapM_eq_mapM_toList,Sem.run_map,h7];simp_all) h
theorem lB[hk:Kt.nU k]{zl:List Value}[ht:px P t e][xz:iI P e sz][hz:TZ P e zs](hw:aJ ops vs ⟨some d,.buildSlice t n parts.toArray,ty,pos,af,g⟩=some true)(hn:aH d N=true)(hx:vp vs parts=some us)(BT:ac9 zs n=some zl)(hl:Gi (λi=>some (i*sz,sz)) zl us=some l)(hzs:dB zs.length sz=true)(hsmall:aH (n*sz) 16777216=true)(zW:aH 0 (n*sz)=true)(h:∀bl,X P b β (some (ops,rest)) k ⟨N,(d,.slice (some ⟨bl,0,none⟩) n n)::vs,ds⟩ (bx bl e l::Hs) R):X P b β (some (ops,⟨some d,.buildSlice t n parts.toArray,ty,pos,af,g⟩::rest)) k ⟨N,vs,ds⟩ Hs R:=
 ly (v:=λbl=>.slice (some ⟨bl,0,none⟩) n n) (Hs':=λbl=>bx bl e l::Hs) U hn hw (λa w he hs=>by
  have e1:=sH he hx;obtain⟨z,h3,h4⟩:=uz (P:=P) (w:=w) hz.out;have h5:=yq hl;have e2:parts.toArray.map (fun(i,x)=>(i,a.eval x))=us.toArray:=bE;have hlen:zs.length=sz:=eG hzs;have Bi:¬(n*sz>2^24):=by have:=aI hsmall;omega
  have ug:¬(n*sz=0):=by have:=aI zW;omega
  have h6:(Array.range (n*sz)).map (λk=>zs.toArray[k%zs.toArray.size]!)=zl.toArray:=by
   grind [JG,PG]
  refine⟨w.heap.size,_,?_,hs.alloc (.cells l.toArray e (0,0))⟩;simp only[execOp,e2,Instr.buildSlice,aU,bC ht.out,aC,iR xz.out,Bi,ug,if_false,bN,h3,h4,h6,h5,newRow,run_newObj]) h
end
@[reducible] def ao(l:List UInt8):Value:=.string ⟨l.toArray⟩
def Bd(vs:List (Nat×Value))(dflt:Nat):Option Operand->Nat->Prop
 |none,n=>n=dflt
 |some x,n=>∃kk,eo vs x=some (.int kk (n:Int))
theorem Bd.no:Bd vs n none n:=rfl
theorem Bd.at{dflt:Nat}(h:eo vs x=some (.int kk m))(hm:m=(n:Int)):Bd vs dflt (some x) n:=⟨kk,hm▸h⟩
theorem run_sliceBound{w:World}{y:Nat}{c:BoundsCode}(h:n<=y):(Instr.sliceBound (.int kk (n:Int)) y c).run P w=.ok n w:=by
 have h1:(n:Int)<=y:=av;simp[Instr.sliceBound,asIntOf,h]
theorem nV{w:World}{N:Nat}{ds:List Deferred}{a:Act}(he:fU ⟨N,vs,ds⟩ a){isS:Bool}{len cap l h:Nat}(hl:Bd vs 0 low l)(hh:Bd vs len high h)(h1:l<=h)(h2:h<=cap):
 (gl isS len cap (low.map a.eval) (high.map a.eval) none).run P w=.ok (l,h,cap) w:=by
 cases low with
 |none=>
  obtain rfl:l=0:=hl;cases high with
  |none=>obtain rfl:h=len:=hh;simp[gl]
  |some y=>
   obtain⟨kk,hy⟩:=hh;have e:=aO he hy;simp[gl,e,run_sliceBound h2]
 |some x=>
  obtain⟨kk,hx⟩:=hl;have e1:=aO he hx;cases high with
  |none=>
   obtain rfl:h=len:=hh;simp[gl,e1,run_sliceBound h1]
  |some y=>
   obtain⟨kk',hy⟩:=hh;have e:=aO he hy;simp[gl,e,e1,run_sliceBound h2,run_sliceBound h1]
section
variable{P:Program}{vs:List (Nat×Value)}{rest:List Oper}
theorem wh{E:Env}(hH:VS Hs Hs')(h:X P b β c k E Hs' R):X P b β c k E Hs R:=by
 intro hb;have:=h hb;cases c with
 |none=>exact λa w he hs=>this a w he (hH _ _ hs)
 |some c=>exact λa w he hs=>this a w he (hH _ _ hs)
theorem aU6{E:Env}(hH:aN Hs (ro p::F)){q:Prop}(hq:∀r,p r->q)(h:q->X P b β c k E Hs R):X P b β c k E Hs R:=by
 intro hb;cases c with
 |none=>exact λa w he hs=>h (hq _ (Sat.ro (hs.cd hH))) hb a w he hs
 |some c=>exact λa w he hs=>h (hq _ (Sat.ro (hs.cd hH))) hb a w he hs
theorem kz{i:Operand}{l:List UInt8}[ht:oL P t](hw:aJ ops vs ⟨some d,.index t x i,ty,pos,af,g⟩=some true)(hn:aH d N=true)(hx:eo vs x=some (ao l))(hi:eo vs i=some (.int kk m))(hm:m=(j:Int))(hj:j<l.length)(h:X P b β (some (ops,rest)) k ⟨N,(d,fO l[j])::vs,ds⟩ Hs R):X P b β (some (ops,⟨some d,.index t x i,ty,pos,af,g⟩::rest)) k ⟨N,vs,ds⟩ Hs R:=
 X.val U hn hw (λa w he _=>by
  have e1:=aO he hx;have e2:=aO he hi;subst hm;have e3:(⟨l.toArray⟩:ByteArray)[j]?=some l[j]:=by
   have:j<(⟨l.toArray⟩:ByteArray).size:=Va;rw[getElem?_pos (⟨l.toArray⟩:ByteArray) j this];rfl
  simp[execOp,e1,e2,Instr.index,asIntOf,bC ht.out,e3,fO]) h
theorem mM{l h:Nat}{s:List UInt8}[ht:oL P t](hw:aJ ops vs ⟨some d,.slice t x low high none,ty,pos,af,g⟩=some true)(hn:aH d N=true)(hx:eo vs x=some (ao s))(hl:Bd vs 0 low l)(hh:Bd vs s.length high h)(h1:l<=h)(h2:h<=s.length)(hk:X P b β (some (ops,rest)) k ⟨N,(d,ao ((s.drop l).take (h - l)))::vs,ds⟩ Hs R):X P b β (some (ops,⟨some d,.slice t x low high none,ty,pos,af,g⟩::rest)) k ⟨N,vs,ds⟩ Hs R:=
 X.val U hn hw (λa w he _=>by
  have e1:=aO he hx;have e2:(⟨s.toArray⟩:ByteArray).size=s.length:=bo9;have e3:=nV (P:=P) (w:=w) he (isS:=false) hl hh h1 h2;have e4:(⟨s.toArray⟩:ByteArray).extract l h=⟨((s.drop l).take (h - l)).toArray⟩:=by
   apply ByteArray.ext;rw[ByteArray.data_extract];apply Array.toList_inj.1;simp[List.take_drop,List.extract]
  simp[execOp,e1,Instr.sliceAt,Instr.slice,bC ht.out,e2,e3,e4]) hk
theorem vW.cut{α:Type}{Re:Rp α}{l:Nat}{xs:List α}(m:Bool)(h:vW Re sz a xs r)(h1:l+n<=xs.length)(hm:m=true->n=0):
 vW Re sz (if m=true then a else a.map (·.add (l*sz))) ((xs.drop l).take n) r:=by
 rcases Nat.eq_zero_or_pos n with rfl|zW
 ·left;simp
 ·have hmf:m=false:=by grind
  subst hmf
  rcases h with h|⟨b,o,rfl,h2⟩
  ·grind
  ·right
   refine⟨b,o+l*sz,by simp[addr_add],?_⟩
   grind
theorem nI[hk:Kt.nU k]{α:Type}{Re:Rp α}{l h c:Nat}{xs:List α}[ht:px P t e][hz:iI P e sz](hw:aJ ops vs ⟨some d,.slice t x low high none,ty,pos,af,g⟩=some true)(hn:aH d N=true)(hx:eo vs x=some (.slice a n c))[hf:zI Hs a Re sz xs](hlen:xs.length=n)(hl:Bd vs 0 low l)(hh:Bd vs n high h)(h1:l<=h)(h2:h<=n)(oM:n<=c)(hk:∀a' c',h - l<=c'->X P b β (some (ops,rest)) k ⟨N,(d,.slice a' (h - l) c')::vs,ds⟩ (bV Re sz a' ((xs.drop l).take (h - l))::Hs) R):X P b β (some (ops,⟨some d,.slice t x low high none,ty,pos,af,g⟩::rest)) k ⟨N,vs,ds⟩ Hs R:=
 CV (Hs':=bV Re sz (if decide (c=l)=true then a else a.map (·.add (l*sz))) ((xs.drop l).take (h - l))::Hs) (v:=.slice (if decide (c=l)=true then a else a.map (·.add (l*sz))) (h - l) (c - l)) U hn hw (λact w he hs=>by
  have e1:=aO he hx;have e3:=nV (P:=P) (w:=w) he (isS:=true) (cap:=c) hl hh h1 av;obtain⟨rr,hr⟩:=hf.out;refine⟨w,?_,hs.cd (il hr λr h3=>h3.cut _ av bB)⟩;simp[execOp,e1,Instr.sliceAt,Instr.slice,bC ht.out,e3,iR hz.out]) (hk _ _ av)
theorem av5[hk:Kt.nU k]{cp:Nat}[ht:px P t e][hz:iI P e sz][T':yl P e Bg][M7:TZ P e zs](hw:aJ ops vs ⟨some d,.makeSlice t x y,ty,pos,af,g⟩=some true)(hn:aH d N=true)(hx:eo vs x=some (.int k1 0))(hy:eo vs y=some (.int k2 m))(hm:m=(cp:Int))(hb:Bg*cp<=281474976710656)(h63:cp<=9223372036854775807)(h:∀a,X P b β (some (ops,rest)) k ⟨N,(d,.slice a 0 cp)::vs,ds⟩ (own e sz a 0 cp []::Hs) R):X P b β (some (ops,⟨some d,.makeSlice t x y,ty,pos,af,g⟩::rest)) k ⟨N,vs,ds⟩ Hs R:=
 ly (v:=λa=>.slice a 0 cp) (Hs':=λa=>own e sz a 0 cp []::Hs) U hn hw (λact w he hs=>by
  have e1:=aO he hx
  have e2:=aO he hy
  obtain⟨i,hi,yo⟩:=bk.1 hz.out
  have zV:i.bytes=Bg:=bh7
  obtain⟨z,hzero,ZS⟩:=bk.1 M7.out
  have sG:i.zero=some z:=bE
  subst hm
  have hr:=run_make (P:=P) w t e i z ht.out hi sG k1 k2 0 cp (Int.le_refl _) av bE av
  simp only[Int.toNat_zero,fG]at hr
  refine⟨some ⟨w.heap.size,0,none⟩,w.alloc (.cells (madeCells z.cells (cp*i.size)) e),by grind [execOp,aU,aC,bN],?_⟩
  grind [fK,Sat.jP,maxLen,size_madeCells]) h
theorem au8[hk:Kt.nU k]{m1 m2:Int}[ht:px P t e][hz:iI P e sz][T':yl P e Bg][M7:TZ P e zs](BT:zs.length=sz)(hw:aJ ops vs ⟨some d,.makeSlice t x y,ty,pos,af,g⟩=some true)(hn:aH d N=true)(hx:eo vs x=some (.int k1 m1))(hy:eo vs y=some (.int k2 m2))(py:m1=(n:Int))(HU:m2=(n:Int))(hb:Bg*n<=281474976710656)(h63:n<=9223372036854775807)(h:∀a,X P b β (some (ops,rest)) k ⟨N,(d,.slice a n n)::vs,ds⟩ (own e sz a n n (bI n zs).flatten::Hs) R):X P b β (some (ops,⟨some d,.makeSlice t x y,ty,pos,af,g⟩::rest)) k ⟨N,vs,ds⟩ Hs R:=
 ly (v:=λa=>.slice a n n) (Hs':=λa=>own e sz a n n (bI n zs).flatten::Hs) U hn hw (λact w he hs=>by
  have e1:=aO he hx
  have e2:=aO he hy
  obtain⟨i,hi,yo⟩:=bk.1 hz.out
  have zV:i.bytes=Bg:=bh7
  obtain⟨z,hzero,ZS⟩:=bk.1 M7.out
  have sG:i.zero=some z:=bE
  subst py
  subst HU
  have hr:=run_make (P:=P) w t e i z ht.out hi sG k1 k2 n n av av bE av
  simp only[fG]at hr
  refine⟨some ⟨w.heap.size,0,none⟩,w.alloc (.cells (madeCells z.cells (n*i.size)) e),by grind [execOp,aU,aC,bN],?_⟩
  grind [madeCells,JG,fK,Sat.jP,maxLen]) h
theorem sA[hk:Kt.nU k]{c m c2:Nat}{rs Jc:List az}[ht:px P t e][hz:iI P e sz][T':yl P e Bg][M7:TZ P e zs](hw:aJ ops vs ⟨some d,.call ⟨.builtin .append,#[x,y],#[t,t]⟩,ty,pos,af,g⟩=some true)(hn:aH d N=true)(hx:eo vs x=some (.slice a n c))(hy:eo vs y=some (.slice (some ⟨bl,0,none⟩) m c2))[ho:FO Hs a e sz n c xs rs][hs:FB rs bl bt cs Jc](BT:dB zs.length sz=true)(hl:dB cs.length (m*sz)=true)(h1:mB cs=true)(Fg:Nat.ble 1 Bg=true)(hb:(n+m)*Bg<=140737488355328)(h:∀a' c',X P b β (some (ops,rest)) k ⟨N,(d,.slice a' (n+m) c')::vs,ds⟩ (own e sz a' (n+m) c' (xs++cs)::Jc) R):
 X P b β (some (ops,⟨some d,.call ⟨.builtin .append,#[x,y],#[t,t]⟩,ty,pos,af,g⟩::rest)) k ⟨N,vs,ds⟩ Hs R:=
 ly (ι:=Option Addr×Nat) (v:=λp=>.slice p.1 (n+m) p.2) (Hs':=λp=>own e sz p.1 (n+m) p.2 (xs++cs)::Jc) U hn hw (λact w he lP=>by
  have e1:=aO he hx;have e2:=aO he hy;have h2:=lP.cd ho.out;have h3:=Sat.append (P:=P) (t:=t) (ty:=ty) (ad:=⟨bl,0,none⟩) (m:=m) (c2:=c2) (news:=cs) h2 (eG BT) (eG hl) (λj u hj=>by
   rw[addr_add,aQ];exact Sat.cell (h2.cd (aN.drop _ _)) hs.out hj) (pV h1) (aI Fg) hb
  obtain⟨a',c',w',h4,h5⟩:=h3;exact⟨(a',c'),w',by simp[execOp,resolve,invoke,builtin,e1,e2,h4],h5.cd (aN.cons _ (hs.out.trans (aN.drop _ _)))⟩) (λp=>h p.1 p.2)
theorem MC[hk:Kt.nU k]{α:Type}{bo:α->List Value}{c m c2:Nat}{a2:Option Addr}{ys:List α}{rs:List az}[ht:px P t e][hz:iI P e sz][T':yl P e Bg][M7:TZ P e zs](hw:aJ ops vs ⟨some d,.call ⟨.builtin .append,#[x,y],#[t,t]⟩,ty,pos,af,g⟩=some true)(hn:aH d N=true)(hx:eo vs x=some (.slice a n c))(hy:eo vs y=some (.slice a2 m c2))[ho:FO Hs a e sz n c xs rs][hs:zI rs a2 (bp bo) sz ys](hm:ys.length=m)(BT:dB zs.length sz=true)(kF:∀y,(bo y).length=sz)(h1:∀y,mB (bo y)=true)(Fg:Nat.ble 1 Bg=true)(hb:(n+m)*Bg<=140737488355328)(h:∀a' c',X P b β (some (ops,rest)) k ⟨N,(d,.slice a' (n+m) c')::vs,ds⟩ (own e sz a' (n+m) c' (xs++ys.flatMap bo)::rs) R):
 X P b β (some (ops,⟨some d,.call ⟨.builtin .append,#[x,y],#[t,t]⟩,ty,pos,af,g⟩::rest)) k ⟨N,vs,ds⟩ Hs R:=
 ly (ι:=Option Addr×Nat) (v:=λp=>.slice p.1 (n+m) p.2) (Hs':=λp=>own e sz p.1 (n+m) p.2 (xs++ys.flatMap bo)::rs) U hn hw (λact w he lP=>by
  have e1:=aO he hx;have e2:=aO he hy;have h2:=lP.cd ho.out;obtain⟨rr,hr⟩:=hs.out;have sI:vW (bp bo) sz a2 ys (hp w):=Sat.ro ((h2.cd (aN.drop _ _)).cd hr);have hlen:(ys.flatMap bo).length=m*sz:=by
   rw[<-hm];clear sI hr hs hm h;induction ys<;>grind
  by_cases h0:ys=[]
  ·subst h0;have Ym:m=0:=by rw[<-hm];rfl
   subst Ym;obtain⟨i,hi,yo⟩:=bk.1 hz.out;refine⟨(a,c),w,?_,by grind⟩;have oM:n<=c:=by
    rcases dx h2 with⟨_,rfl,rfl,_⟩|⟨_,_,_,_,h6,_⟩;all_goals omega
   have hf:(Builtin.firstCells sz 0 (.slice a2 0 c2)).run P w=.ok #[] w:=by
    cases a2 with
    |none=>simp[Builtin.firstCells]
    |some ad=>grind [run_firstCells_some]
   cases a<;>simp[execOp,resolve,invoke,builtin,e1,e2,Builtin.append_,bC ht.out,iR hz.out,Builtin.lenOf,oM,hf,storeCells]
  ·rcases sI with sI|⟨b2,o2,rfl,sI⟩
   ·grind
   ·have h3:=Sat.append (P:=P) (t:=t) (ty:=ty) (ad:=⟨b2,o2,none⟩) (m:=m) (c2:=c2) (news:=ys.flatMap bo) h2 (eG BT) hlen (λj u hj=>by
     rw[addr_add];have key:∀(ys:List α) (j:Nat) (u:Value),(ys.flatMap bo)[j]?=some u->∃i y q,ys[i]?=some y/\(bo y)[q]?=some u/\j=i*sz+q:=by
      intro ys;induction ys with
      |nil=>grind
      |cons y r ih=>
       intro j u h;rw[eQ,List.getElem?_append,kF]at h;by_cases hj:j<sz
       ·rw[if_pos hj]at h;exact⟨0,y,j,U,h,by simp⟩
       ·rw[if_neg hj]at h;obtain⟨i,y',q,h3,h4,h5⟩:=ih _ _ h;exact⟨i+1,y',q,by grind,h4,by grind⟩
     obtain⟨i,y,q,h6,h7,rfl⟩:=key _ _ _ hj;obtain⟨l,_,h8,h9⟩:=sI i y h6;have h9':l=bo y:=h9;subst h9';rw[<-Nat.add_assoc];exact h8.cell h7) (λu hu=>by
      grind [pV]) (aI Fg) hb
    obtain⟨a',c',w',h4,h5⟩:=h3;exact⟨(a',c'),w',by simp[execOp,resolve,invoke,builtin,e1,e2,h4],h5⟩) (λp=>h p.1 p.2)
end
end
section
variable{done:List Nat}{x y:Operand}{T:Nat->Bool}{F Fx rs:List az}{t i kt bl sz t' e et n c f f0 j:Nat}{K:Type}{xs us cs:List Value}{v zv:Value}{ts qW:Array TypeId}{kk:IntKind}{l m:List UInt8}{ch:List PanicEntry}{P:Program}{a:Option Addr}{fn:Func}{o:List Oper}{op:BinOp}
def rls{α:Type}(R:Rp α)(sz:Nat)(ls:List (List Value))(xs:List α):az:=
 ro (λr=>ls.length=xs.length/\∀(i:Nat) (l:List Value) (x:α),ls[i]?=some l->xs[i]?=some x->l.length=sz/\R.h r l x)
theorem qX{sz:Nat}:∀{ls:List (List Value)} {i j:Nat} {l:List Value} {v:Value},(∀l∈ls,l.length=sz)->ls[i]?=some l->l[j]?=some v->ls.flatten[i*sz+j]?=some v
 |[],i,j,l,v,_,h,_=>by cases h
 |m::r,0,j,l,v,hs,h,hv=>by
  grind
 |m::r,i+1,j,l,v,hs,h,hv=>by
  have hm:m.length=sz:=hs m nH;have ih:=qX (sz:=sz) (ls:=r) (i:=i) (j:=j) (l:=l) (v:=v) (λl hl=>hs l SO) BU hv;rw[List.flatten_cons,List.getElem?_append_right (by rw[hm,fP];omega),hm];rw[show(i+1)*sz+j - sz=i*sz+j from by rw[fP];omega];exact ih
theorem Pj{p q s:Hp->Prop}(F:List az)(h:∀r,p r->q r->s r):aN (ro p::ro q::F) (ro s::F):=by
 rintro r o ⟨o1,o2,hd,h1,h3,hp,o3,o4,hd',h4,h5,hq,iz⟩;exact⟨fL,o4,cR _,cJ _,h5.trans h3,λr' nG=>h r' (hp r' nG) (hq r' nG),iz⟩
theorem MK{α:Type}(R:Rp α){ls:List (List Value)}{xs:List α}(F:List az)(hn:n=xs.length):
 VS (own e sz a n c ls.flatten::rls R sz ls xs::F) (bV R sz a xs::F):=by
 intro β w hs
 rcases dx hs with⟨rfl,rfl,rfl,M9,h2⟩|⟨g,cur,rfl,h3,h6,h7,h8,h9,h2⟩
 ·have hx:xs=[]:=by grind
  subst hx;refine h2.cd ?_;rintro r o ⟨o1,o2,hd,h1,h3,hp,iz⟩;exact⟨fL,o2,cR _,cJ _,h3,λr' nG=>.inl U,iz⟩
 ·refine(Sat.freeze h2).cd (Pj F ?_)
  rintro r hg ⟨hlen,sE⟩
  right
  refine⟨g,0,U,λi x hx=>?_⟩
  have hi:i<ls.length:=bE
  have hl:ls[i]?=some ls[i]:=aV hi
  obtain⟨Ml,h11⟩:=sE i _ x hl hx
  refine⟨ls[i],Ml,⟨cur,e,(0,0),hg,λj v hv=>?_⟩,h11⟩
  have xz:∀l∈ls,l.length=sz:=by
   grind [List.getElem?_of_mem]
  have h12:=qX xz hl hv
  grind
theorem VS.freeze{α:Type}{bo:α->List Value}{xs:List α}(F:List az)(hn:n=xs.length)(kF:∀x,(bo x).length=sz):
 VS (own e sz a n c (xs.flatMap bo)::F) (bV (bp bo) sz a xs::F):=by
 intro β w hs
 have h1:Sat β (own e sz a n c (xs.map bo).flatten::rls (bp bo) sz (xs.map bo) xs::F) w:=by
  rw[List.flatMap_def]at hs;refine hs.cd ?_;rintro r o ⟨o1,o2,hd,h1,h3,hp,iz⟩;refine⟨o1,o2,hd,h1,h3,hp,fL,o2,cR _,cJ _,.refl _,λr' _=>⟨by simp,λi l x hl hx=>?_⟩,iz⟩;rw[dO,hx]at hl;cases hl;exact⟨kF x,U⟩
 exact MK _ F hn β w h1
section
variable{P:Program}{vs:List (Nat×Value)}{rest:List Oper}
theorem gV{cc:Option (Array Oper×List Oper)}{E:Env}(a:Option Addr)[ho:FO Hs a e sz n c xs rs](hn:0<n)(h:∀bl,a=some ⟨bl,0,none⟩->X P b β cc k E Hs R):X P b β cc k E Hs R:=by
 have key:∀w,Sat β Hs w->∃bl,a=some ⟨bl,0,none⟩:=by
  intro w hs;rcases dx (hs.cd ho.out)with⟨_,h0,_⟩|⟨gg,_,h1,_⟩;all_goals grind
 intro hb;cases cc with
 |none=>exact λact w he hs=>by obtain⟨bl,Fh⟩:=key w hs;exact h bl Fh hb act w he hs
 |some cc=>exact λact w he hs=>by obtain⟨bl,Fh⟩:=key w hs;exact h bl Fh hb act w he hs
theorem du{o:Nat}{i:Operand}{m:Int}[ht:px P t e][hz:iI P e sz](hw:aJ ops vs ⟨some d,.indexAddr t x i,ty,pos,af,g⟩=some true)(hn:aH d N=true)(hx:eo vs x=some (.slice (some ⟨bl,o,none⟩) n c))(hi:eo vs i=some (.int kk m))(hm:m=(j:Int))(hj:j<n)(h:X P b β (some (ops,rest)) k ⟨N,(d,.pointer (some ⟨bl,o+j*sz,none⟩))::vs,ds⟩ Hs R):
 X P b β (some (ops,⟨some d,.indexAddr t x i,ty,pos,af,g⟩::rest)) k ⟨N,vs,ds⟩ Hs R:=
 X.val U hn hw (λact w he hs=>by
  have e1:=aO he hx;have e2:=aO he hi;subst hm;simp[execOp,e1,e2,Instr.indexAt,asIntOf,bC ht.out,iR hz.out,hj,addr_add]) h
theorem uq{w:World}(h:Sat β Hs w)(hf:aN Hs (own e sz (some ⟨bl,0,none⟩) n c xs::rs))(hi:xs[i]?=some v):w.cell? ⟨bl,i,none⟩=some v:=by
 rcases dx (h.cd hf)with⟨h0,_⟩|⟨g,cur,h1,h3,h6,h7,h8,h9,h2⟩
 ·cases h0
 ·cases h1
  have hg:=dS h2
  grind [gj]
theorem X.iP{o:Nat}[ht:TA P t false](hw:aJ ops vs ⟨some d,.load t x,ty,pos,af,g⟩=some true)(hn:aH d N=true)(hx:eo vs x=some (.pointer (some ⟨bl,o,none⟩)))[hf:FO Hs (some ⟨bl,0,none⟩) e sz n c xs rs](hv:xs[o]?=some v)(h:X P b β (some (ops,rest)) k ⟨N,(d,v)::vs,ds⟩ Hs R):X P b β (some (ops,⟨some d,.load t x,ty,pos,af,g⟩::rest)) k ⟨N,vs,ds⟩ Hs R:=
 X.val U hn hw (λa w he hs=>by
  have e1:=aO he hx;have hg:=iY (P:=P) (w:=w) ht.out;simp[execOp,e1,iO,eM,loadVar,hg,uq hs hf.out hv]) h
theorem Mx{o m:Nat}{l:List Value}[ht:TA P t true][hz:iI P t m](hw:aJ ops vs ⟨some d,.load t x,ty,pos,af,g⟩=some true)(hn:aH d N=true)(hx:eo vs x=some (.pointer (some ⟨bl,o,none⟩)))[hf:FO Hs (some ⟨bl,0,none⟩) e sz n c xs rs](hl:l.length=m)(hv:(xs.drop o).take m=l)(h:X P b β (some (ops,rest)) k ⟨N,(d,.agg l.toArray)::vs,ds⟩ Hs R):X P b β (some (ops,⟨some d,.load t x,ty,pos,af,g⟩::rest)) k ⟨N,vs,ds⟩ Hs R:=
 X.val U hn hw (λa w he hs=>by
  have e1:=aO he hx;have hg:=iY (P:=P) (w:=w) ht.out;have h4:∀(j:Nat) (v:Value),l[j]?=some v->w.cell? ((⟨bl,o,none⟩:Addr).add j)=some v:=by
   intro j v hj
   rw[addr_add]
   refine uq hs hf.out ?_
   grind
  have h5:=run_loadCells_list (P:=P) w ⟨bl,o,none⟩ l h4;rw[hl]at h5;simp[execOp,e1,iO,eM,loadVar,hg,iR hz.out,h5]) h
theorem Pe[hk:Kt.nU k]{o m:Nat}{l:List Value}[hz:iI P t m](hw:aJ ops vs ⟨none,.store t x y,ty,pos,af,g⟩=some true)(hx:eo vs x=some (.pointer (some ⟨bl,o,none⟩)))(hy:eo vs y=some v)[hf:FO Hs (some ⟨bl,0,none⟩) e sz n c xs rs](hl:cl v=some l)(h1:l.length=m)(h2:mB l=true)(h3:o+l.length<=xs.length)(h:X P b β (some (ops,rest)) k ⟨N,vs,ds⟩ (own e sz (some ⟨bl,0,none⟩) n c (xs.take o++l++xs.drop (o+l.length))::rs) R):X P b β (some (ops,⟨none,.store t x y,ty,pos,af,g⟩::rest)) k ⟨N,vs,ds⟩ Hs R:=
 Jq U hw (λa w he hs=>by
  have e1:=aO he hx;have e2:=aO he hy;rcases dx (hs.cd hf.out)with⟨h0,_⟩|⟨g,cur,h4,h5,h6,h7,h8,h9,Ml⟩
  ·cases h0
  ·cases h4;have hxl:xs.length<=cur.size:=by
    rw[<-h9,cB];simp;omega
   have iz:=run_storeCells_at P bl o e l 0 cur w (dS Ml) av (pV h2);have hc:=PB hl;have xz:v.cells.size=m:=by rw[hc];simpa using h1
   simp only[Nat.add_zero]at iz;refine⟨w.setRow bl (cur.toList.take o++l++cur.toList.drop (o+l.length)).toArray,?_,?_⟩
   ·have h11:(Instr.storeAt t (.pointer (some ⟨bl,o,none⟩)) v).run P w=.ok () (w.setRow bl (cur.toList.take o++l++cur.toList.drop (o+l.length)).toArray):=by
     simp only[Instr.storeAt,eM,storeVar,aU,bN,aC,iR hz.out,xz,ne_eq,not_true_eq_false,if_false];rw[hc];simpa using iz
    simp[execOp,e1,e2,h11]
   ·have wm:cur.toList.length=cur.size:=by simp
    refine fK (Sat.setRow Ml) ?_ h6 h7 ?_ ?_
    ·simp only[aG,cB,List.length_drop];rw[<-h5];omega
    ·simp only[dC,aG,cB,List.length_drop,wm];refine aj h8 ?_;omega
    ·have e3:n*sz=xs.length:=h5.symm;rw[e3];have e4:xs=cur.toList.take xs.length:=by rw[h5,h9]
     apply dP;intro j;have hgx:∀j,xs[j]?=if j<xs.length then cur.toList[j]? else none:=by
      intro j;conv=>lhs;rw[e4]
      rw[List.getElem?_take]
     simp only[List.getElem?_take,List.getElem?_append,aG,cB,List.getElem?_drop,hgx,wm];by_cases j1:j<o
     ·simp[j1,show j<o+l.length from by omega,show j<xs.length from by omega,show j<cur.size from by omega,show o<=cur.size from by omega,show o<=xs.length from by omega,show j<min o cur.size+l.length from by omega,show j<min o xs.length+l.length from by omega,show j<min o cur.size from by omega,show j<min o xs.length from by omega]
     ·by_cases j2:j<o+l.length
      ·simp[j1,show j<o+l.length from by omega,show j<xs.length from by omega,show min o cur.size=o from by omega,show min o xs.length=o from by omega,j2]
      ·have e5:o+l.length+(j - (o+l.length))=j:=by omega
       have e6:min o cur.size=o:=av;have e7:min o xs.length=o:=av;simp only[e6,e7,e5,if_neg j2]) h
end
theorem map_eraseIdx{α β:Type}(f:α->β):∀(l:List α) (i:Nat),(l.eraseIdx i).map f=(l.map f).eraseIdx i
 |[],_=>rfl
 |_::_,0=>rfl
 |x::l,i+1=>by simp[map_eraseIdx f l i]
def HV{K:Type}(bo:K->Value)(M:List (K×Value))(x:Obj):Prop:=
 ∃es mX,x=.map es mX/\es.toList.map (λe=>(e.key,e.val))=M.map (λp=>(bo p.1,p.2))/\(es.toList.map (·.born)).Nodup/\∀e∈es.toList,e.born<mX
def mp{K:Type}(bo:K->Value)(b:Nat)(M:List (K×Value)):az:=
 ⟨λ_ o=>∃x,o b=some x/\HV bo M x,λ_ ho ⟨x,h1,h2⟩=>⟨x,ho _ _ h1,h2⟩⟩
structure Keyed(P:Program)(kt:Nat){K:Type}[DecidableEq K](bo:K->Value):Prop where
 check:∀(e:Bool) (x:K) (w:World),(gv e 10000 kt (bo x)).run P w=.ok () w
 find:∀(x:K) (es:List MapEntry) (ks:List K) (w:World),es.map (·.key)=ks.map bo->
  (Instr.findKey kt (bo x) es).run P w=.ok ((ks.findIdx? (·=x)).bind λi=>(es[i]?).map λe=>(i,e.val)) w
 same:∀(x:K) (w:World),(Instr.keyThatStays (bo x) (bo x)).run P w=.ok (bo x) w
class FM(Hs:List az)(b:Nat){K:outParam Type}(bo:outParam (K->Value))(M:outParam (List (K×Value)))(rest:outParam (List az)):Prop where out:aN Hs (mp bo b M::rest)
instance FM.here{K:Type}(bo:K->Value)(b:Nat)(M:List (K×Value))(Hs:List az):FM (mp bo b M::Hs) b bo M Hs:=⟨aN.refl _⟩
instance(priority:=low) FM.there(p:az)(Hs:List az)(b:Nat){K:Type}(bo:K->Value)(M:List (K×Value))(rest:List az)[h:FM Hs b bo M rest]:FM (p::Hs) b bo M (p::rest):=
 ⟨(aN.cons p h.out).trans (cQ _ _ _)⟩
theorem Sat.map{β:bS}{Hs:List az}{w:World}{bo:K->Value}{b:Nat}{M:List (K×Value)}(h:Sat β (mp bo b M::Hs) w):
 ∃x,HV bo M x/\Sat β (Sl.pt b x::Hs) w:=by
 obtain⟨r,o,h0,hf,⟨o1,o2,hd,h1,h2,⟨x,hx,hm⟩,iz⟩,pf⟩:=h
 exact⟨x,hm,r,o,h0,hf,⟨o1,o2,hd,h1,h2,hx,iz⟩,pf⟩
theorem mN{β:bS}{Hs:List az}{w:World}{bo:K->Value}{b:Nat}{M:List (K×Value)}{x:Obj}(h:Sat β (Sl.pt b x::Hs) w)(hm:HV bo M x):Sat β (mp bo b M::Hs) w:=by
 obtain⟨r,o,h0,hf,⟨o1,o2,hd,h1,h2,hx,iz⟩,pf⟩:=h;exact⟨r,o,h0,hf,⟨o1,o2,hd,h1,h2,⟨x,hx,hm⟩,iz⟩,pf⟩
theorem Sat.setObj{β:bS}{Hs:List az}{w:World}{b:Nat}{x y:Obj}(h:Sat β (Sl.pt b x::Hs) w):Sat β (Sl.pt b y::Hs) {w with heap:=w.heap.setIfInBounds b y}:=by
 have hb:=dS h
 have tV:=(dT.1 hb).1
 refine Sat.put h ⟨U,U,U,by simp,λ_=>ar _⟩ (by simp[tV]) ?_
 grind
def fB{K:Type}[DecidableEq K](M:List (K×Value))(x:K):Option Value:=(M.find? (·.1=x)).map (·.2)
def gJ{K:Type}[DecidableEq K](M:List (K×Value))(x:K)(v:Value):List (K×Value):=
 match M.findIdx? (·.1=x)with
 |some i=>M.set i (x,v)
 |none=>M++[(x,v)]
def tW{K:Type}[DecidableEq K](M:List (K×Value))(x:K):List (K×Value):=
 match M.findIdx? (·.1=x)with
 |some i=>M.eraseIdx i
 |none=>M
section
variable {P:Program}{w:World}{kt et:Nat}{K:Type}[DecidableEq K]{bo:K->Value}
theorem uA{M:List (K×Value)}{es:List MapEntry}(h:es.map (λe=>(e.key,e.val))=M.map (λp=>(bo p.1,p.2)))(hk:Keyed P kt bo)(x:K):
 (Instr.findKey kt (bo x) es).run P w=.ok ((M.findIdx? (·.1=x)).bind λi=>(es[i]?).map λe=>(i,e.val)) w:=by
 have h1:es.map (·.key)=(M.map (·.1)).map bo:=by
  have:=congrArg (List.map Prod.fst) h;simpa[cz,Function.comp_def]using this
 rw[hk.find x es (M.map (·.1)) w h1]
 congr 2
 rw[List.findIdx?_map]
 rfl
theorem uB{M:List (K×Value)}{es:List MapEntry}(h:es.map (λe=>(e.key,e.val))=M.map (λp=>(bo p.1,p.2)))(x:K):
 ((M.findIdx? (·.1=x)).bind λi=>(es[i]?).map λe=>(i,e.val))=(M.findIdx? (·.1=x)).bind λi=>(M[i]?).map λp=>(i,p.2):=by
 congr 1
 funext i
 have:=congrArg (λl=>l[i]?) h
 simp only[dO]at this
 cases h1:es[i]?<;>cases h2:M[i]?<;>simp[h1,h2]at this ⊢
 exact this.2
theorem lQ{M:List (K×Value)}{x:K}(h:M.findIdx? (·.1=x)=some i)(v:Value):gJ M x v=M.set i (x,v):=by simp[gJ,h]
theorem lR{M:List (K×Value)}{x:K}(h:M.findIdx? (·.1=x)=none)(v:Value):gJ M x v=M++[(x,v)]:=by simp[gJ,h]
theorem Ci{M:List (K×Value)}{x:K}:fB M x=(M.findIdx? (·.1=x)).bind λi=>(M[i]?).map (·.2):=by
 induction M with
 |nil=>simp[fB]
 |cons p r ih=>
  by_cases hp:p.1=x
  ·grind [fB]
  ·simp only[fB,List.find?_cons,hp,decide_false,List.findIdx?_cons,bY,if_false]at ih ⊢;rw[ih];cases r.findIdx? (·.1=x)<;>simp
theorem C3{β:bS}{Hs:List az}{b:Nat}{M:List (K×Value)}[ht:xy P t kt et](hk:Keyed P kt bo)(h:Sat β (mp bo b M::Hs) w)(x:K)(v:Value):
 ∃w',(Instr.mapUpdate t (.map (some b)) (bo x) v).run P w=.ok () w'/\Sat β (mp bo b (gJ M x v)::Hs) w':=by
 obtain⟨o,⟨es,mX,rfl,h1,h2,h3⟩,hs⟩:=Sat.map h
 have hb:=dS hs
 have hf:=uA (P:=P) (w:=w) h1 hk x
 rw[uB h1]at hf
 have hlen:es.size=M.length:=bf7
 cases hi:M.findIdx? (·.1=x)with
 |none=>
  rw[hi]at hf;refine⟨{w with heap:=w.heap.setIfInBounds b (.map (es.push {key:=bo x,val:=v,born:=mX}) (mX+1))},?_,?_⟩
  ·simp only[Instr.mapUpdate,aU,bC ht.out,aC,getObj,fo,hb,hk.check,hf,Option.bind_none,setObj]
  ·rw[lR hi];refine mN (Sat.setObj hs) ⟨_,_,U,?_,?_,?_⟩;all_goals grind
 |some i=>
  rw[hi]at hf;have Mm:i<M.length:=by
   grind [bA]
  have hie:i<es.size:=av;have Na:M[i]?=some M[i]:=aV Mm;have zX:M[i].1=x:=by
   grind [bA]
  have hek:(es[i]?).map (·.key)=some (bo x):=by
   have:=congrArg (λl=>l[i]?) h1;simp only[dO,Na,cZ]at this;cases h4:es[i]? with
   |none=>rw[h4]at this;simp at this
   |some e=>rw[h4]at this;simp at this;simp[this.1,zX]
  simp only[Option.bind_some,Na,bH]at hf;refine⟨{w with heap:=w.heap.setIfInBounds b (.map (es.modify i λe=>{e with key:=bo x,val:=v}) mX)},?_,?_⟩
  ·simp only[Instr.mapUpdate,aU,bC ht.out,aC,getObj,fo,hb,hk.check,hf,Option.bind_some,bH,hek,bX,hk.same,setObj]
  ·rw[lQ hi]
   refine mN (Sat.setObj hs) ⟨_,_,U,?_,?_,?_⟩
   ·apply dP;intro j;have h5:=congrArg (λl=>l[j]?) h1;simp only[dO,cZ]at h5 ⊢;rw[eF,List.getElem?_set];by_cases xG:i=j
    ·subst xG;simp[Mm,hie]
    ·simp[xG,h5]
   ·have:(es.modify i λe=>{e with key:=bo x,val:=v}).toList.map (·.born)=es.toList.map (·.born):=by
     apply dP
     grind
    grind
   grind [List.getElem?_of_mem]
theorem Nb{β:bS}{Hs:List az}{b:Nat}{M:List (K×Value)}{ty:Nat}[ht:xy P t kt et](YS:ts[0]?=some t)(hk:Keyed P kt bo)(h:Sat β (mp bo b M::Hs) w)(x:K):
 ∃w',(Builtin.delete_ ts ty #[.map (some b),bo x]).run P w=.ok (.tuple #[]) w'/\Sat β (mp bo b (tW M x)::Hs) w':=by
 obtain⟨o,⟨es,mX,rfl,h1,h2,h3⟩,hs⟩:=Sat.map h
 have hb:=dS hs
 have hf:=uA (P:=P) (w:=w) h1 hk x
 rw[uB h1]at hf
 cases hi:M.findIdx? (·.1=x)with
 |none=>
  rw[hi]at hf;refine⟨{w with heap:=w.heap.setIfInBounds b (.map es mX)},?_,?_⟩
  ·exact ax8
  ·have:tW M x=M:=by simp[tW,hi]
   rw[this];exact mN (Sat.setObj hs) ⟨_,_,U,h1,h2,h3⟩
 |some i=>
  rw[hi]at hf;have Mm:i<M.length:=(bA.1 hi).1;have Na:M[i]?=some M[i]:=aV Mm;simp only[Option.bind_some,Na,bH]at hf;refine⟨{w with heap:=w.heap.setIfInBounds b (.map (es.eraseIdxIfInBounds i) mX)},?_,?_⟩
  ·exact ax8
  ·have:tW M x=M.eraseIdx i:=by simp[tW,hi]
   rw[this];have Gk:(es.eraseIdxIfInBounds i).toList=es.toList.eraseIdx i:=by
    simp_all
   refine mN (Sat.setObj hs) ⟨_,_,U,?_,?_,?_⟩;all_goals grind [map_eraseIdx]
end
def Rc:List Oper->List Nat
 |[]=>[]
 |o::r=>match o.dst with
  |some d=>d::Rc r
  |none=>Rc r
def PH(d:Nat):List Nat->Bool
 |[]=>true
 |e::r=> !dB d e&&PH d r
def fresh(vs:List (Nat×Value))(N:Nat):List Oper->Bool
 |[]=>true
 |o::r=>match o.dst with
  |some d=>(lk vs d).isSome&&aH d N&&PH d (Rc r)&&fresh vs N r
  |none=>false
def C4{α:Type}(p:α->Bool):List α->Bool
 |[]=>true
 |x::r=>p x&&C4 p r
def Vb{α:Type}(p:α->Bool):List α->Bool
 |[]=>false
 |x::r=>p x||Vb p r
theorem pF{α:Type}(p:α->Bool):∀l:List α,C4 p l=l.all p
 |[]=>rfl
 |x::r=>by simp[C4,pF p r]
theorem HW{α:Type}(p:α->Bool):∀l:List α,Vb p l=l.any p
 |[]=>rfl
 |x::r=>by simp[Vb,HW p r]
def Vc(ops:Array Oper):Bool:=C4 (λo=>match o.op with|.select ..=>false|_=>true) ops.toList
theorem Vd{ops:Array Oper}(h:Vc ops=true):Region.noSelect ops=true:=by
 grind [Vc,pF,Region.noSelect]
def wJ:Nat->List Nat->Bool
 |_,[]=>false
 |i,x::r=>dB x i||wJ i r
def ad2(ops:Array Oper)(done:List Nat)(i:Nat):Bool:=
 !wJ i done&&match ops[i]? with
  |some o=>C4 (λe=> !Region.binds .any e||wJ e.on done) o.after.toList
  |none=>false
def rO(ops:Array Oper)(done:List Nat):List Nat->List Nat
 |[]=>[]
 |i::r=>match ad2 ops done i with
  |true=>i::rO ops done r
  |false=>rO ops done r
def upto:Nat->List Nat->List Nat
 |0,l=>l
 |n+1,l=>upto n (n::l)
theorem Cj:∀(n:Nat) (l:List Nat),upto n l=List.range n++l
 |0,l=>by simp[upto]
 |n+1,l=>by rw[upto,Cj n,List.range_succ];simp
theorem JH{i:Nat}:∀{l:List Nat},wJ i l=true↔i∈l
 |[]=>by simp[wJ]
 |x::r=>by
  simp only[wJ,Bool.or_eq_true,bK,JH (l:=r)];have:(dB x i=true)↔i=x:=by
   constructor
   ·intro h;exact(eG h).symm
   ·rintro rfl;simp
  rw[this]
theorem Gl(n:Nat):∀l:List Nat,(mark n l).size=n
 |[]=>by simp[mark]
 |i::r=>by simp[mark,Gl n r]
theorem yr{n i:Nat}(hi:i<n):∀(l:List Nat) (d:Bool),(mark n l).getD i d=wJ i l
 |[],d=>by simp[mark,wJ,hi]
 |x::r,d=>by
  by_cases hx:x=i
  ·subst hx;have h1:x<(mark n r).size:=by grind [Gl]
   have h2:dB x x=true:=nH;simp[mark,wJ,h1]
  ·have h2:dB x i=false:=beq_false hx;simp only[mark,wJ,h2,Bool.false_or];rw[getD_set_ne d hx];exact yr hi r d
def mv(ops:Array Oper):Bool:=C4 (λo=>C4 (λe=>aH e.on ops.size) o.after.toList) ops.toList
theorem Nc{ops:Array Oper}(h:mv ops=true){o:Oper}(ho:ops[i]?=some o){e:Edge}(he:e∈o.after):e.on<ops.size:=by
 unfold mv at h;rw[pF,ef]at h;have h1:=h o (by have:=Array.mem_of_getElem? ho;simpa using this);rw[pF,ef]at h1;simp_all
theorem PI{ops:Array Oper}(hE:mv ops=true)(hi:i<ops.size):
 (!(mark ops.size done).getD i true&&((ops[i]?).map (·.after.all λe=> !Region.binds .any e||(mark ops.size done).getD e.on false)).getD false)=ad2 ops done i:=by
 rw[yr hi]
 unfold ad2
 congr 1
 cases ho:ops[i]? with
 |none=>rfl
 |some o=>
  simp only[bH,bX]
  rw[pF,<-Array.all_toList]
  rw[Bool.eq_iff_iff,ef,ef]
  have:∀e∈o.after.toList,(!Region.binds .any e||(mark ops.size done).getD e.on false)=(!Region.binds .any e||wJ e.on done):=by
   intro e he;rw[yr (Nc hE ho bE)]
  grind
theorem PJ{ops:Array Oper}(hE:mv ops=true):Region.ready .any ops (mark ops.size done)=rO ops done (upto ops.size []):=by
 unfold Region.ready
 rw[Cj,ah]
 have:∀l:List Nat,(∀i∈l,i<ops.size)->(l.filter λi=> !(mark ops.size done).getD i true&&((ops[i]?).map (·.after.all λe=> !Region.binds .any e||(mark ops.size done).getD e.on false)).getD false)=rO ops done l:=by
  intro l;induction l<;>grind [PI,rO]
 grind
def BV(ops:Array Oper)(done:List Nat)(i:Nat):Bool:=
 match ops[i]? with
 |none=>false
 |some oi=>C4 (λj=>dB j i||wJ j done||match ops[j]? with
  |some oj=>Vb (λe=>Region.binds .any e&&dB e.on i) oj.after.toList||Nd ops oi oj
  |none=>true) (upto ops.size [])
where
 HX (ops:Array Oper) (o:Oper):List Tmp:=
  (tmps o.op.operands.toList)++(match o.guard with
   |some (g,_)=>match(ops[g]?).bind (·.dst)with
    |some d=>[d]
    |none=>[]
   |none=>[])
 tmps:List Operand->List Tmp
  |[]=>[]
  |.tmp t::r=>t::tmps r
  |_::r=>tmps r
 Nd (ops:Array Oper) (x y:Oper):Bool:=
  (match x.dst with
   |some d=> !wJ d (HX ops y)&&(match y.dst with|some e=> !dB e d|none=>true)
   |none=>true)&&
  (match y.dst with
   |some d=> !wJ d (HX ops x)
   |none=>true)
theorem yt:∀l:List Operand,BV.tmps l=l.filterMap fun|.tmp t=>some t|_=>none
 |[]=>rfl
 |.tmp t::r=>by simp[BV.tmps,yt r]
 |.const v::r=>by simp[BV.tmps,yt r]
 |.global v::r=>by simp[BV.tmps,yt r]
 |.func v::r=>by simp[BV.tmps,yt r]
theorem JI(ops:Array Oper)(o:Oper):BV.HX ops o=o.looksAt ops:=by
 grind [BV.HX,Oper.looksAt,yt]
theorem wo(i:Nat)(l:List Nat):wJ i l=l.contains i:=by
 grind [JH]
theorem Ve(ops:Array Oper)(x y:Oper):BV.Nd ops x y=x.apart ops y:=by
 unfold BV.Nd Oper.apart
 rw[JI,JI]
 congr 1
 ·cases x.dst with
  |none=>rfl
  |some d=>
   dsimp only;rw[wo];congr 1;cases y.dst with
   |none=>simp
   |some e=>
    by_cases he:e=d
    ·simp_all
    grind [beq_false]
 grind [wo]
theorem ad3{ops:Array Oper}(h:BV ops done i=true):Region.free .any ops (mark ops.size done) i=true:=by
 unfold BV at h;unfold Region.free;cases ho:ops[i]? with
 |none=>grind
 |some oi=>
  rw[ho]at h
  dsimp only at h ⊢
  rw[pF,Cj,ah,ef]at h
  rw[ef]
  intro j hj
  have h1:=h j hj
  have hj':j<ops.size:=List.mem_range.1 hj
  rw[yr hj']
  simp only[Bool.or_eq_true]at h1 ⊢
  rcases h1 with(h1|h1)|h1
  ·simp_all
  ·grind
  ·refine .inr ?_;cases hoj:ops[j]? with
   |none=>rfl
   |some oj=>
    rw[hoj]at h1;dsimp only at h1 ⊢;rw[HW,Ve]at h1;simp_all
def Vf(T:Nat->Bool)(ops:Array Oper)(j:Nat):Bool:=
 C4 (λi=> !T i||dB i j||match ops[j]? with
  |some oj=>Vb (λe=>Region.binds .any e&&dB e.on i) oj.after.toList
  |none=>false) (upto ops.size [])
theorem Vg{ops:Array Oper}(h:Vf T ops j=true):late T ops j=true:=by
 unfold Vf at h
 unfold late
 rw[pF,Cj,ah,ef]at h
 rw[ef]
 intro i hi
 have h1:=h i hi
 simp only[Bool.or_eq_true]at h1 ⊢
 rcases h1 with(h1|h1)|h1
 ·grind
 ·simp_all
 ·refine .inr ?_;cases hoj:ops[j]? with
  |none=>grind
  |some oj=>
   rw[hoj]at h1;dsimp only at h1 ⊢;rw[HW,List.any_eq_true]at h1;rw[<-Array.any_toList,List.any_eq_true];simp_all
def HY(ops:Array Oper)(T:Nat->Bool):List Nat->List Nat->List Oper->Bool
 |_,[],[]=>true
 |done,i::is,o::os=>T i&&(aH i ops.size&&ad2 ops done i)&&BV ops done i&&aH done.length ops.size&&HY ops T (i::done) is os
 |_,_,_=>false
def PK(ops:Array Oper):List Nat->Option (List Oper)
 |[]=>some []
 |i::r=>match ops[i]? with
  |some o=>match PK ops r with
   |some l=>some (o::l)
   |none=>none
  |none=>none
def Ck:List Nat->List Nat->List Nat
 |[],l=>l
 |x::r,l=>Ck r (x::l)
theorem JJ{d:Nat}:∀{l:List Nat},PH d l=true->d∉l
 |[],_=>by simp
 |e::r,h=>by
  simp only[PH,Bool.and_eq_true,Bool.not_eq_true']at h;intro hm;rcases bK.1 hm with rfl|hm
  ·simp at h
  ·exact JJ h.2 hm
section
variable{P:Program}
theorem Pn{p:Act->Prop}:∀{os:List Oper} {a:Act} {w:World},RL P ops (λa' _=>p a') os a w->∃a',p a'/\∀t,t∉Rc os->a'.tmps[t]?=a.tmps[t]?
 |[],a,w,h=>⟨a,h,λ_ _=>rfl⟩
 |o::r,a,w,h=>by
  have key:∀v,RL P ops (λa' _=>p a') r (a.put o.dst v) w->∃a',p a'/\∀t,t∉Rc (o::r)->a'.tmps[t]?=a.tmps[t]?:=by
   intro v hv
   obtain⟨a',h1,h2⟩:=Pn hv
   grind [Rc,Act.put]
  rcases h with⟨_,v,_,hr⟩|⟨_,hr⟩;all_goals grind
theorem C5{Q:Exit->Act->World->Prop}{T:Nat->Bool}{S:World->Prop}{E':Env}(Cl:mv ops=true)(M5:Region.noSelect ops=true)
 (hQ:∀o∈ops.toList,∀v c a w,Q (.panic c) (a.put o.dst v) w->Q (.panic c) a w):
 ∀(is:List Nat) (os:List Oper) (done:List Nat) (A:Act->Prop),PK ops is=some os->HY ops T done is os=true->fresh E'.vs E'.n os=true->
  (∀a,A a->a.tmps.size=E'.n)->(∀a w,A a->S w->RL P ops (λa' _=>fU E' a') os a w)->
  ∀a w,A a->S w->(∀a',fU E' a'->ql P ops Q T S (ops.size - (Ck is done).length) (mark ops.size (Ck is done)) a' w)->ql P ops Q T S (ops.size - done.length) (mark ops.size done) a w
 |[],[],done,A,_,_,_,hn,h,a,w,ha,hs,hk=>hk a (h a w ha hs)
 |[],o::os,done,A,hp,_,_,_,_,_,_,_,_,_=>by cases hp
 |i::is,[],done,A,hp,hc,_,_,_,_,_,_,_,_=>by cases hc
 |i::is,o::os,done,A,hp,hc,hf,hn,h,a,w,ha,hs,hk=>by
  simp only[PK]at hp;split at hp
  ·rename_i o' ho;split at hp
   ·rename_i l hl;cases hp;simp only[HY,Bool.and_eq_true]at hc;obtain⟨⟨⟨⟨h1,h2⟩,h3⟩,h4⟩,h5⟩:=hc;simp only[fresh]at hf;split at hf
    ·rename_i d hd
     simp only[Bool.and_eq_true]at hf
     obtain⟨⟨⟨f1,f2⟩,f3⟩,f4⟩:=hf
     obtain⟨u,hu⟩:=Option.isSome_iff_exists.1 f1
     have f3:=JJ f3
     have tV:d<E'.n:=aI f2
     have val:∀v w,RL P ops (λa' _=>fU E' a') os (a.put (some d) v) w->v=u:=by
      intro v w hr
      obtain⟨a',e1,e2⟩:=Pn hr
      have e3:=e1.2.2 d u hu
      grind [Act.put]
     have hy:YieldsIf P ops S o u a:=by
      rcases Bool.eq_false_or_eq_true (Region.wanted o (yielded ops a.tmps))with hw|hw
      ·refine .inl ⟨hw,λw hs=>?_⟩;rcases h a w ha hs with⟨_,v,hv,hr⟩|⟨hw',_⟩;all_goals grind
      ·refine .inr ⟨hw,?_⟩;rcases h a w ha hs with⟨hw',_⟩|⟨_,hr⟩;all_goals grind
     have h4':done.length<ops.size:=aI h4
     have Vh:ops.size - done.length=(ops.size - (i::done).length)+1:=bE
     rw[Vh]
     refine HQ (v:=u) ho h1 (Region.noSelect_spec M5) (λc a w hq=>hQ o bE _ c a w hq) _ _ _ _ (Region.free_spec ho (ad3 h3)) (by
      grind [Region.ready,PI]) hy hs ?_
     refine C5 Cl M5 hQ is os (i::done) (λa'=>∃a,A a/\a'=a.put o.dst u/\∀w,S w->RL P ops (λa' _=>fU E' a') os (a.put o.dst u) w) hl h5 f4 ?_ ?_ _ w ⟨a,ha,U,?_⟩ hs ?_
     ·grind [Act.put]
     ·grind
     ·intro w hs;rcases h a w ha hs with⟨_,v,hv,hr⟩|⟨_,hr⟩;all_goals grind
     ·exact hk
    ·cases hf
   ·cases hp
  ·cases hp
end
section
variable{P:Program}{k:List Item}{vs:List (Nat×Value)}
class PL(P:Program):Prop where out:P.follows .mixedOrders=true
theorem Q0{β:bS}{Hs:List az}{w:World}(h:Sat β Hs w):Sat β Hs {w with drawn:=w.drawn+1}:=by
 exact h.heap U U U U (gk _)
theorem aN.nil:∀(Hs:List az),aN Hs []
 |[]=>aN.refl _
 |p::r=>(aN.drop p r).trans (aN.nil r)
theorem fN:∀(A F:List az),aN (A++F) A
 |[],F=>aN.nil F
 |p::A,F=>aN.cons p (fN A F)
class FP(Hs:List az)(p:az)(rest:outParam (List az)):Prop where out:aN Hs (p::rest)
instance FP.here(p:az)(Hs:List az):FP (p::Hs) p Hs:=⟨aN.refl _⟩
instance(priority:=low) FP.there(q p:az)(Hs rest:List az)[h:FP Hs p rest]:FP (q::Hs) p (q::rest):=⟨(aN.cons q h.out).trans (cQ _ _ _)⟩
class ES(Hs:List az)(A:List az)(F:outParam (List az)):Prop where out:aN Hs (A++F)
instance ES.nil(Hs:List az):ES Hs [] Hs:=⟨aN.refl _⟩
instance ES.cons(Hs Hs':List az)(p:az)(A F:List az)[h1:FP Hs p Hs'][h2:ES Hs' A F]:ES Hs (p::A) F:=⟨h1.out.trans (aN.cons p h2.out)⟩
theorem aN.es{Hs A:List az}[h:ES Hs A F]:aN Hs (A++F):=h.out
theorem ay{Hs A:List az}[h:ES Hs A F]:aN Hs A:=h.out.trans (fN A F)
def uC:List Nat->Nat->Bool
 |[],_=>false
 |x::r,i=>dB x i||uC r i
theorem JK{Q:Exit->Act->World->Prop}(ro:Option Nat)(hd:∀o∈ops.toList,∀c,o.op≠.defer c)(hno:¬LetsOut Q):∀(fuel:Nat) (listed:Array Bool) (a:Act) (w:World),wpAny P .any ops Q fuel listed a w->wpAnyIn (Fw ro) 0 P .any ops Q fuel listed a w
 |0,_,_,_,h=>h
 |fuel+1,listed,a,w,h=>by
  refine⟨h.1,λi hi=>?_⟩;have h1:=h.2 i hi;refine wpOpIn_mono (λa' w' h'=>JK ro hd hno fuel _ a' w' h') ?_;unfold wpOp at h1;unfold wpOpIn;cases ho:ops[i]? with
  |none=>rw[ho]at h1;exact h1
  |some o=>
   rw[ho]at h1;have hm:o∈ops.toList:=by
    obtain⟨tV,he⟩:=dT.1 ho;rw[<-he];simp
   dsimp only at h1 ⊢;split
   ·rename_i hw;rw[if_pos hw]at h1;exact MZ ro (hd o hm) (h1.resolve_right λhh=>hno hh.2)
   ·rename_i hw;rw[if_neg hw]at h1;exact⟨λ_ _=>trivial,h1⟩
theorem fM[hm:PL P]{E:Env}{id:Nat}(T:Nat->Bool)(Fx:List az)(jd:Bf ops.toList=true)(h:X P b β none (.dr ops T Fx [] k) E Hs R):X P b β none (.it (.code (.region id ops true)::k)) E Hs R:=by
 intro hb a w he hs;refine vU.of_wp (Q:=QD P b β ops k R) (wpIn_region_any hm.out (JK b.roundOf (JB jd) (by rintro⟨_,_,h⟩;exact h) _ _ _ _ (C0 (T:=T) (S:=Sat β Fx) _ _ _ _ ?_))) (λ_ _ h=>h) (λ_ _ _ h=>h _ U U (λ_ _=>rfl)) (λ_ _ h=>h) (λ_ _ _ h=>h) (λ_ _ _ h=>h) (λ_ _ h=>h);exact h hb a _ he (Q0 hs)
theorem cW(is:List Nat){os:List Oper}{zH:List (Nat×Value)}(hp:PK ops is=some os)[hE:ES Hs Fx F](M5:Vc ops=true)(Cl:mv ops=true)(hX:∀p,X P b β none (.pr p) ⟨N,zH,ds⟩ Fx R->X P b β (some (ops,os)) (.pr p) ⟨N,vs,ds⟩ Fx R)(hc:HY ops T done is os=true)(hf:fresh zH N os=true)(h:X P b β none (.dr ops T Fx (Ck is done) k) ⟨N,zH,ds⟩ Hs R):X P b β none (.dr ops T Fx done k) ⟨N,vs,ds⟩ Hs R:=by
 intro hb a w he hs
 refine C5 (E':=⟨N,zH,ds⟩) Cl (Vd M5) ?_ is os done (fU ⟨N,vs,ds⟩) hp hc hf (λa ha=>ha.1) ?_ a w he ?_ ?_
 ·intro o ho v c a w hq a' e1 e2 e3;refine hq a' (e1.trans ?_) (e2.trans ?_) (λt ht=>(e3 t ht).trans ?_)
  ·cases o.dst<;>simp[Act.put]
  ·cases o.dst<;>simp[Act.put]
  ·cases hd:o.dst with
   |none=>rfl
   |some d=>
    have:d≠t:=by rintro rfl;exact ht ⟨o,ho,hd⟩
    grind [Act.put]
 ·intro a w he hs;exact hX (λa' _=>fU ⟨N,zH,ds⟩ a') (λ_ a w he _=>he) hb a w he hs
 ·exact(hs.cd hE.out).cd (fN _ _)
 ·intro a' FD;exact h hb a' w FD hs
theorem HO{E:Env}(Cl:mv ops=true)(hr:rO ops done (upto ops.size [])=[])(h:X P b β none (.it k) E Hs R):X P b β none (.dr ops T Fx done k) E Hs R:=by
 rw[<-PJ Cl]at hr;intro hb a w he hs;have h1:=h hb a w he hs;show ql _ _ _ _ _ _ _ _ _;generalize ops.size - done.length=n;cases n with
 |zero=>exact⟨hr,h1⟩
 |succ n=>exact⟨λ_=>h1,by rw[hr];simp⟩
def Vi(p:Nat->Prop):List Nat->Prop
 |[]=>True
 |[i]=>p i
 |i::r=>p i/\Vi p r
theorem Gb{p:Nat->Prop}:∀{l:List Nat},Vi p l->∀i∈l,p i
 |[],_,i,hi=>by cases hi
 |[j],h,i,hi=>by simp at hi;subst hi;exact h
 |j::x::r,h,i,hi=>by
  rcases bK.1 hi with rfl|hi
  ·exact h.1
  ·exact Gb (l:=x::r) h.2 i hi
def oneOf(ops:Array Oper)(i:Nat):List Oper:=match ops[i]? with
 |some o=>[o]
 |none=>[]
theorem MY{E:Env}{rs:List Nat}(Cl:mv ops=true)(hr:rO ops done (upto ops.size [])=rs)(hn:aH done.length ops.size=true)(me:rs.isEmpty=false)(h:Vi (λi=>X P b β (some (ops,oneOf ops i)) (.sw ops T Fx i (i::done) k) E Hs R) rs):X P b β none (.dr ops T Fx done k) E Hs R:=by
 rw[<-PJ Cl]at hr
 intro hb a w he hs
 have hn:done.length<ops.size:=aI hn
 show ql _ _ _ _ _ _ _ _ _
 have Vh:ops.size - done.length=(ops.size - (done.length+1))+1:=av
 rw[Vh]
 refine⟨λh0=>?_,λi hi=>?_⟩
 ·grind
 ·rw[hr]at hi;have h1:=(Gb h i hi) hb a w he hs;unfold wpOp;unfold oneOf at h1;cases ho:ops[i]? with
  |none=>
   rw[ho]at h1;exact h1
  |some o=>
   rw[ho]at h1;have h2:wpList P ops (QK P b β (.sw ops T Fx i (i::done) k) R) [o] a w:=h1;unfold wpList at h2;dsimp only;split
   ·rename_i hw;rw[hw]at h2;rcases h2 with h2|⟨_,h2⟩
    ·refine .inl ?_;unfold Oper.wp at h2 ⊢;generalize(execOp a.eval o).run P w=r at h2 ⊢;cases r with
     |ok n w'=>
      cases n<;>simp only[Oper.upon]at h2 ⊢<;>exact h2
     |halt x w'=>cases x<;>simp only[Oper.upon]at h2 ⊢<;>exact h2
    ·obtain⟨_,_,h⟩:=h2;exact h.elim
   ·rename_i hw;rw[if_neg hw]at h2;exact h2
theorem mr{E:Env}(Cl:mv ops=true)(hr:rO ops done (upto ops.size [])=[i])(hn:aH done.length ops.size=true)(ho:oneOf ops i=o)(h:X P b β (some (ops,o)) (.sw ops T Fx i (i::done) k) E Hs R):X P b β none (.dr ops T Fx done k) E Hs R:=MY Cl hr hn U (by subst ho;exact h)
theorem dA{E:Env}{o':List Oper}(Cl:mv ops=true)(hr:rO ops done (upto ops.size [])=[i,j])(hn:aH done.length ops.size=true)(ho:oneOf ops i=o)(ho':oneOf ops j=o')(h:X P b β (some (ops,o)) (.sw ops T Fx i (i::done) k) E Hs R)(h':X P b β (some (ops,o')) (.sw ops T Fx j (j::done) k) E Hs R):X P b β none (.dr ops T Fx done k) E Hs R:=MY Cl hr hn U (by subst ho;subst ho';exact⟨h,h'⟩)
theorem X.sw{E:Env}[hE:ES Hs Fx F](h:X P b β none (.dr ops T Fx done k) E Hs R):X P b β none (.sw ops T Fx i done k) E Hs R:=
 λhb a w he hs=>⟨.inr ((hs.cd hE.out).cd (fN _ _)),h hb a w he hs⟩
theorem aT0{E:Env}(hl:Vf T ops i=true)(h:X P b β none (.dr ops T Fx done k) E Hs R):X P b β none (.sw ops T Fx i done k) E Hs R:=
 λhb a w he hs=>⟨.inl (Vg hl),h hb a w he hs⟩
end
theorem vq(l:List UInt8):(⟨l.toArray⟩:ByteArray).toList=l:=by
 simp_all
theorem Rf(l m:List UInt8):(⟨l.toArray⟩:ByteArray)++⟨m.toArray⟩=⟨(l++m).toArray⟩:=by
 apply ByteArray.ext;simp[ByteArray.data_append]
theorem yu(l:List UInt8):(⟨l.toArray⟩:ByteArray).size=l.length:=bo9
theorem sJ:∃n,∀t x y,Op.equal t x y=fC (n+1) t x y:=⟨9999,λ_ _ _=>rfl⟩
@[reducible] def cT(v:Value):Ending->List az->Prop:=cb λu B=>u=v/\B=[]
class EK(Hs A:List az):Prop where out:aN Hs (A++Hs)
instance EK.nil(Hs:List az):EK Hs []:=⟨aN.refl _⟩
theorem aN.app:∀(A:List az) {F F':List az},aN F F'->aN (A++F) (A++F')
 |[],_,_,h=>h
 |p::A,_,_,h=>aN.cons p (aN.app A h)
instance EK.ro(Hs A r:List az)(p:Hp->Prop)[h1:FP Hs (ro p) r][h2:EK Hs A]:EK Hs (ro p::A):=⟨by
 intro rr o hs;have h3:=h2.out rr o hs;obtain⟨o1,o2,_,_,_,hp,_⟩:=h1.out rr o hs;exact⟨fL,o,cR _,cJ _,.refl _,hp,h3⟩⟩
instance EK.bV{α:Type}(Hs A r:List az)(Re:Rp α)(sz:Nat)(a:Option Addr)(xs:List α)[h1:FP Hs (bV Re sz a xs) r][h2:EK Hs A]:EK Hs (bV Re sz a xs::A):=
 EK.ro Hs A r _ (h1:=h1)
section
variable{P:Program}{vs:List (Nat×Value)}{rest:List Oper}
theorem bc1(hw:aJ ops vs ⟨some d,.binOp .add t x y t',ty,pos,af,g⟩=some true)(hn:aH d N=true)(hx:eo vs x=some (ao l))(hy:eo vs y=some (ao m))(hb:l.length+m.length<=9223372036854775807)(h:X P b β (some (ops,rest)) k ⟨N,(d,ao (l++m))::vs,ds⟩ Hs R):X P b β (some (ops,⟨some d,.binOp .add t x y t',ty,pos,af,g⟩::rest)) k ⟨N,vs,ds⟩ Hs R:=
 X.val U hn hw (λa w he _=>by
  have e1:=aO he hx;have e2:=aO he hy;have e3:¬((((⟨l.toArray⟩:ByteArray).size+(⟨m.toArray⟩:ByteArray).size:Nat):Int)>dV.max):=by
   rw[yu,yu,show dV.max=9223372036854775807 from by decide];omega
  simp only[execOp,e1,e2,eqGuard,binOp,Op.stringOp,if_neg e3,Rf];simp) h
theorem X.seq(hw:aJ ops vs ⟨some d,.binOp .eql t x y t',ty,pos,af,g⟩=some true)(hn:aH d N=true)(hx:eo vs x=some (ao l))(hy:eo vs y=some (ao m))(h:X P b β (some (ops,rest)) k ⟨N,(d,.bool (l==m))::vs,ds⟩ Hs R):X P b β (some (ops,⟨some d,.binOp .eql t x y t',ty,pos,af,g⟩::rest)) k ⟨N,vs,ds⟩ Hs R:=
 X.val U hn hw (λa w he _=>by
  have e1:=aO he hx;have e2:=aO he hy;simp only[execOp,e1,e2,eqGuard,binOp,Op.stringOp,vq];simp) h
theorem be3(hw:aJ ops vs ⟨some d,.binOp .neq t x y t',ty,pos,af,g⟩=some true)(hn:aH d N=true)(hx:eo vs x=some (ao l))(hy:eo vs y=some (ao m))(h:X P b β (some (ops,rest)) k ⟨N,(d,.bool (!(l==m)))::vs,ds⟩ Hs R):X P b β (some (ops,⟨some d,.binOp .neq t x y t',ty,pos,af,g⟩::rest)) k ⟨N,vs,ds⟩ Hs R:=
 X.val U hn hw (λa w he _=>by
  have e1:=aO he hx;have e2:=aO he hy;simp only[execOp,e1,e2,eqGuard,binOp,Op.stringOp,vq];simp) h
theorem UR[ht:oL P t](hw:aJ ops vs ⟨some d,.call ⟨.builtin .len,#[x],#[t]⟩,ty,pos,af,g⟩=some true)(hn:aH d N=true)(hx:eo vs x=some (ao l))(h:X P b β (some (ops,rest)) k ⟨N,(d,.int .i64 l.length)::vs,ds⟩ Hs R):X P b β (some (ops,⟨some d,.call ⟨.builtin .len,#[x],#[t]⟩,ty,pos,af,g⟩::rest)) k ⟨N,vs,ds⟩ Hs R:=
 X.val U hn hw (λa w he _=>by
  have:=aO he hx;simp[execOp,resolve,invoke,builtin,Builtin.len_,this,bC ht.out,goInt,yu]) h
theorem aU3{v:Bool}(hw:aJ ops vs ⟨some d,.binOp op t x y t',ty,pos,af,g⟩=some true)(hn:aH d N=true)(hx:eo vs x=some (ao l))(hy:eo vs y=some (ao m))(hv:(match op with|.lss=>some (Op.bytesLess l m)|.gtr=>some (!(Op.bytesLess l m||l==m))|_=>none)=some v)(h:X P b β (some (ops,rest)) k ⟨N,(d,.bool v)::vs,ds⟩ Hs R):X P b β (some (ops,⟨some d,.binOp op t x y t',ty,pos,af,g⟩::rest)) k ⟨N,vs,ds⟩ Hs R:=
 X.val U hn hw (λa w he _=>by
  have e1:=aO he hx;have e2:=aO he hy;cases op<;>simp only[fF,reduceCtorEq]at hv;all_goals
   subst hv
   simp only[execOp,e1,e2,eqGuard,binOp,Op.stringOp,vq]
   simp) h
theorem X.mul{m n:Int}(hw:aJ ops vs ⟨some d,.binOp .mul t x y t',ty,pos,af,g⟩=some true)(hn:aH d N=true)(hx:eo vs x=some (.int .i64 m))(hy:eo vs y=some (.int .i64 n))(h1: -9223372036854775808<=m*n)(h2:m*n<=9223372036854775807)(h:X P b β (some (ops,rest)) k ⟨N,(d,.int .i64 (m*n))::vs,ds⟩ Hs R):X P b β (some (ops,⟨some d,.binOp .mul t x y t',ty,pos,af,g⟩::rest)) k ⟨N,vs,ds⟩ Hs R:=
 X.val U hn hw (λa w he _=>by
  have e1:=aO he hx;have e2:=aO he hy;have e3:=IntWalk.i64_in (m*n) ⟨h1,h2⟩;simp[execOp,e1,e2,eqGuard,binOp,Op.intArith,e3]) h
theorem aS4{m n:Int}(hw:aJ ops vs ⟨some d,.call ⟨.builtin .min,#[x,y],ts⟩,ty,pos,af,g⟩=some true)(hn:aH d N=true)(hx:eo vs x=some (.int kk m))(hy:eo vs y=some (.int kk n))(h:X P b β (some (ops,rest)) k ⟨N,(d,.int kk (if n<m then n else m))::vs,ds⟩ Hs R):X P b β (some (ops,⟨some d,.call ⟨.builtin .min,#[x,y],ts⟩,ty,pos,af,g⟩::rest)) k ⟨N,vs,ds⟩ Hs R:=
 X.val U hn hw (λa w he _=>by
  have e1:=aO he hx;have e2:=aO he hy;simp[execOp,resolve,invoke,builtin,Builtin.min_,Builtin.min2,e1,e2]) h
theorem aS5{m n:Int}(hw:aJ ops vs ⟨some d,.call ⟨.builtin .max,#[x,y],ts⟩,ty,pos,af,g⟩=some true)(hn:aH d N=true)(hx:eo vs x=some (.int kk m))(hy:eo vs y=some (.int kk n))(h:X P b β (some (ops,rest)) k ⟨N,(d,.int kk (if m<n then n else m))::vs,ds⟩ Hs R):X P b β (some (ops,⟨some d,.call ⟨.builtin .max,#[x,y],ts⟩,ty,pos,af,g⟩::rest)) k ⟨N,vs,ds⟩ Hs R:=
 X.val U hn hw (λa w he _=>by
  have e1:=aO he hx;have e2:=aO he hy;simp[execOp,resolve,invoke,builtin,Builtin.max_,Builtin.max2,e1,e2]) h
theorem aS9{p:Option Addr}[ht:U7 P t e](hw:aJ ops vs ⟨some d,.binOp op t x y t',ty,pos,af,g⟩=some true)(hn:aH d N=true)(hx:eo vs x=some (.pointer p))(hy:eo vs y=some (.pointer none))(hv:(match op with|.eql=>some (jZ p.isNone)|.neq=>some (jZ p.isSome)|_=>none)=some v)(h:X P b β (some (ops,rest)) k ⟨N,(d,v)::vs,ds⟩ Hs R):X P b β (some (ops,⟨some d,.binOp op t x y t',ty,pos,af,g⟩::rest)) k ⟨N,vs,ds⟩ Hs R:=
 X.val U hn hw (λa w he _=>by
  have e1:=aO he hx;have e2:=aO he hy;cases op<;>simp only[fF,reduceCtorEq]at hv;all_goals
   subst hv
   obtain⟨n,hn⟩:=sJ
   cases p<;>simp[execOp,e1,e2,eqGuard,binOp,hn,fC,bC ht.out]) h
theorem vn[hk:Kt.nU k]{G:bZ}(hG:G.on β){xs:List Operand}{A:List az}(hT:TR P G f us.toArray A (cT v))[rH:CF P f](hw:aJ ops vs ⟨some d,.call ⟨.value (.func f),xs.toArray,qW⟩,ty,pos,af,g⟩=some true)(hn:aH d N=true)(hx:nk vs xs=some us)[hA:EK Hs A](h:X P b β (some (ops,rest)) k ⟨N,(d,v)::vs,ds⟩ Hs R):
 X P b β (some (ops,⟨some d,.call ⟨.value (.func f),xs.toArray,qW⟩,ty,pos,af,g⟩::rest)) k ⟨N,vs,ds⟩ Hs R:=
 ei hG hT hw hn hx hA.out (by rintro _ _ ⟨rfl,rfl⟩;exact h)
theorem aR9{α:Type}(bo:α->List Value)(xs:List α)(F:List az)(he:cs=xs.flatMap bo)(hs:∀x,(bo x).length=sz):
 VS (bx bl t cs::F) (bV (bp bo) sz (some ⟨bl,0,none⟩) xs::F):=by
 intro β w h
 refine(Sat.freeze h).cd ?_
 rintro r o ⟨o1,o2,hd,h1,h3,hp,iz⟩
 refine⟨fL,o2,cR _,cJ _,h3,λr' nG=>?_,iz⟩
 have hg:=hp r' nG
 refine .inr ⟨bl,0,U,λi x hx=>⟨bo x,hs x,⟨cs.toArray,t,(0,0),hg,λj v hv=>?_⟩,U⟩⟩
 have:=qX (sz:=sz) (ls:=xs.map bo) (i:=i) (j:=j) (l:=bo x) (v:=v) bE bE hv
 grind
theorem iu{cc:Option (Array Oper×List Oper)}{E:Env}(bl:Nat)[hf:FB Hs bl t cs rs]{α:Type}(bo:α->List Value)(xs:List α)(he:cs=xs.flatMap bo)(hs:∀x,(bo x).length=sz)(h:X P b β cc k E (bV (bp bo) sz (some ⟨bl,0,none⟩) xs::rs) R):X P b β cc k E Hs R:=
 X.cd hf.out (wh (aR9 bo xs rs he hs) h)
end
section
variable{P:Program}{vs:List (Nat×Value)}{rest:List Oper}
def TD(P:Program)(G:bZ)(f:FuncId)(args:Array Value)(A B:List az):Prop:=
 ∀(β:bS) (w:World),G.on β->Sat β A w->∀u,CallsD P f args u w λe u' w'=>u'=u/\(∃v,e=.returned v)/\Sat β B w'
theorem rm{a:Act}{w:World}{R':Ending->World->Prop}(lC:b.roundOf=none)(hf:P.funcs[b.fn]?=some fn)(hk:b.kind=.normal)(h:Leaves P fn a.tmps R' a.defers (.panicking ch) w):Vm P b (.panicking ch) a w R':=by
 intro todo cs _;obtain⟨e,w',fr,hr,hc,ZT,hl⟩:=leaves_steps a.defers (.panicking ch) w {b.atR a todo with mode:=.panicking ch} cs U U U hf hk h;exact⟨e,w',_,hr,hc,.mk lC ZT hl⟩
theorem aD7{a:Act}{w:World}(lC:b.roundOf=none)(hf:P.funcs[b.fn]?=some fn)(hk:b.kind=.normal)(hd:a.defers=[])(h:ux β R (.panicked ch) w):Vm P b (.panicking ch) a w (ux β R):=
 rm lC hf hk (by rw[hd];exact h)
theorem SR.a42{k:List Item}(lC:b.roundOf=none)(hf:P.funcs[b.fn]?=some fn)(hk:b.kind=.normal)(h:∀a w,fU E a->Sat β Hs w->Leaves P fn a.tmps (ux β R) E.ds .returning w):SR P b β (.code .ret::k) E Hs R:=by
 intro a w he hs cs _
 obtain⟨e,w',fr,hr,hc,ZT,hl⟩:=leaves_steps a.defers .returning w {b.atR a (.code .ret::k)with mode:=.returning} cs U U U hf hk (by rw[he.2.1];exact h a w he hs)
 exact⟨e,w',_,hr,.of_steps (.one (stepR_ret lC)) hc,.mk lC ZT hl⟩
theorem A0(l9:mi b f0){k:Kt}[hk:Kt.nU k]{xs:List Operand}(hw:aJ ops vs ⟨none,.defer ⟨.value (.func f),xs.toArray,qW⟩,ty,pos,af,g⟩=some true)(hx:nk vs xs=some us)(h:X P b β (some (ops,rest)) k ⟨N,vs,⟨.fn (.func f) #[],us.toArray⟩::ds⟩ Hs R):
 X P b β (some (ops,⟨none,.defer ⟨.value (.func f),xs.toArray,qW⟩,ty,pos,af,g⟩::rest)) k ⟨N,vs,ds⟩ Hs R:=by
 intro hb a w he hs
 have h1:=kO he hx
 have h2:xs.toArray.map a.eval=us.toArray:=bE
 have h3:a.eval (.func f)=.func (.func f) #[] #[]:=U
 have hr:(execOp a.eval ⟨none,.defer ⟨.value (.func f),xs.toArray,qW⟩,ty,pos,af,g⟩).run P w=.ok (.defer ⟨.fn (.func f) #[],us.toArray⟩) w:=by
  simp[execOp,resolve,h2,h3,Deferred.ofValue]
 exact UE l9.ro (kD (E:=⟨N,vs,ds⟩) he hw) hr (h hb {a with defers:=⟨.fn (.func f) #[],us.toArray⟩::a.defers} w ⟨he.1,by show _::a.defers=_;rw[he.2.1],he.2.2⟩ hs)
theorem UW(l9:mi b f0){k:Kt}[hk:Kt.nU k]{xs:List Operand}{fst cap:List Value}(hw:aJ ops vs ⟨none,.defer ⟨.value (.tmp t),xs.toArray,qW⟩,ty,pos,af,g⟩=some true)(ht:lk vs t=some (.func (.func f) fst.toArray cap.toArray))(hx:nk vs xs=some us)(h:X P b β (some (ops,rest)) k ⟨N,vs,⟨.fn (.func f) cap.toArray,(fst++us).toArray⟩::ds⟩ Hs R):
 X P b β (some (ops,⟨none,.defer ⟨.value (.tmp t),xs.toArray,qW⟩,ty,pos,af,g⟩::rest)) k ⟨N,vs,ds⟩ Hs R:=by
 intro hb a w he hs
 have h1:=kO he hx
 have h2:xs.toArray.map a.eval=us.toArray:=bE
 have h3:a.eval (.tmp t)=.func (.func f) fst.toArray cap.toArray:=aO (x:=.tmp t) he ht
 have hr:(execOp a.eval ⟨none,.defer ⟨.value (.tmp t),xs.toArray,qW⟩,ty,pos,af,g⟩).run P w=.ok (.defer ⟨.fn (.func f) cap.toArray,(fst++us).toArray⟩) w:=by
  simp[execOp,resolve,h2,h3,Deferred.ofValue]
 exact UE l9.ro (kD (E:=⟨N,vs,ds⟩) he hw) hr (h hb {a with defers:=⟨.fn (.func f) cap.toArray,(fst++us).toArray⟩::a.defers} w ⟨he.1,by show _::a.defers=_;rw[he.2.1],he.2.2⟩ hs)
theorem aR7{k:List Item}{f1:Nat}{rs:List ResultVar}(l9:mi b f)[hf:FR P f rs][rH:CF P f1]{cap:List Value}{A B:List az}{G:bZ}(hG:G.on β)(hT:TD P G f1 (us++cap).toArray A B)(hE:aN Hs (A++F)){l:List Value}(hl:jK P ⟨N,vs,[⟨.fn (.func f1) cap.toArray,us.toArray⟩]⟩ (B++F) rs l)(h:∃C,R (.returned (lx l)) C/\aN (B++F) C):
 X P b β none (.it (.code .ret::k)) ⟨N,vs,[⟨.fn (.func f1) cap.toArray,us.toArray⟩]⟩ Hs R:=by
 intro hb
 obtain⟨fn,h1,rfl⟩:=hf.out
 obtain⟨C,h2,h3⟩:=h
 refine SR.a42 l9.ro FQ hb λa w he hs=>?_
 obtain⟨β',hβ,vV,nL⟩:=jH (hs.cd hE)
 have hc:=hT β' w (G.mono hβ hG) vV .returning
 refine⟨by simp,.func f1,cap.toArray,f1,(us++cap).toArray,U,?_,?_⟩
 ·have:=rH.out (us++cap).toArray w
  grind [invoke]
 ·exact bs7
end
theorem zY{x y:List UInt8}:((⟨x.toArray⟩:ByteArray)==⟨y.toArray⟩)=decide (x=y):=by
 have h:((⟨x.toArray⟩:ByteArray)==⟨y.toArray⟩)=(x.toArray==y.toArray):=U
 grind
theorem C6{K:Type}[DecidableEq K]{bo:K->Value}{kd:TypeDesc}(hs:∀x y,Instr.sameNow kd (bo x) (bo y)=some (decide (x=y)))(x:K):
 ∀(es:List MapEntry) (ks:List K) (i:Nat),es.map (·.key)=ks.map bo->Instr.findNow kd (bo x) es i=some ((ks.findIdx? (·=x)).bind λj=>(es[j]?).map λe=>(i+j,e.val))
 |[],[],i,_=>by simp[Instr.findNow]
 |[],_::_,_,h=>by simp at h
 |_::_,[],_,h=>by simp at h
 |e::es,y::ks,i,h=>by
  simp only[aK,List.cons.injEq]at h
  obtain⟨h1,h2⟩:=h
  simp only[Instr.findNow,h1,hs]
  by_cases ZU:x=y
  ·grind
  ·have hyx:¬y=x:=λh=>ZU h.symm;rw[decide_eq_false ZU];dsimp only;rw[C6 hs x es ks (i+1) h2,List.findIdx?_cons];exact az1
theorem JL{kd:TypeDesc}(hk:P.underlying kt=some kd)[DecidableEq K]{bo:K->Value}(hs:∀x y,Instr.sameNow kd (bo x) (bo y)=some (decide (x=y)))(hc:∀(e:Bool) (x:K) (w:World),(gv e (9999+1) kt (bo x)).run P w=.ok () w)(hb:∀x,Instr.sameBits 10000 (bo x) (bo x)=true):Keyed P kt bo:=by
 refine⟨λe x w=>hc e x w,λx es ks w h=>?_,λx w=>?_⟩
 ·simp only[Instr.findKey,aU,bC hk,aC,C6 hs x es ks 0 h];simp
 ·simp[Instr.keyThatStays,hb]
theorem bW[ht:oL P kt]:Keyed P kt ao:=by
 refine JL ht.out (λx y=>by grind [Instr.sameNow,zY]) (λe x w=>?_) (λx=>?_)
 ·rw[gv];simp[bC ht.out]
 grind [Instr.sameBits,zY]
theorem Rg[ht:uy P kt kk][DecidableEq K](f:K->Int)(hf:∀x y,f x=f y->x=y):Keyed P kt (λx:K=>.int kk (f x)):=by
 refine JL ht.out (λx y=>?_) (λe x w=>?_) (λx=>?_)
 ·simp only[Instr.sameNow,if_true]
  congr 1
  grind
 ·rw[gv];simp[bC ht.out]
 grind [Instr.sameBits]
section
variable{P:Program}{vs:List (Nat×Value)}{rest:List Oper}
theorem qR[hk:Kt.nU k](bo:K->Value)(hw:aJ ops vs ⟨some d,.makeMap t none,ty,pos,af,g⟩=some true)(hn:aH d N=true)(h:∀bl,X P b β (some (ops,rest)) k ⟨N,(d,.map (some bl))::vs,ds⟩ (mp bo bl []::Hs) R):X P b β (some (ops,⟨some d,.makeMap t none,ty,pos,af,g⟩::rest)) k ⟨N,vs,ds⟩ Hs R:=
 ly (v:=λbl=>.map (some bl)) (Hs':=λbl=>mp bo bl []::Hs) U hn hw (λa w he hs=>by
  refine⟨w.heap.size,_,?_,mN (hs.alloc (.map #[] 0)) ⟨#[],0,U,by simp,by simp,by simp⟩⟩;simp[execOp,Instr.makeMap,newObj,fo]) h
theorem C7{β:bS}{w:World}[DecidableEq K]{bo:K->Value}{M:List (K×Value)}[ht:xy P t kt et](hk:Keyed P kt bo)(h:Sat β Hs w)(hf:aN Hs (mp bo bl M::F))(x:K)(z:Value)(hz:fB M x=none->(zeroValue et).run P w=.ok z w)(ok:Bool):
 (Instr.lookup t (.map (some bl)) (bo x) ok).run P w=.ok (if ok then .tuple #[(fB M x).getD z,.bool (fB M x).isSome]else(fB M x).getD z) w:=by
 obtain⟨o,⟨es,mX,rfl,h1,h2,h3⟩,hs⟩:=Sat.map (h.cd hf)
 have hb:=dS hs
 have zJ:=uA (P:=P) (w:=w) h1 hk x
 rw[uB h1]at zJ
 rw[Ci]at hz ⊢
 cases hi:M.findIdx? (·.1=x)with
 |none=>
  rw[hi]at hz zJ
  have hz:=hz U
  simp only[Option.bind_none]at zJ
  simp only[Instr.lookup,aU,bC ht.out,aC,getObj,fo,hb,hk.check,zJ,hz,bN]
  grind
 |some i=>
  have Mm:i<M.length:=(bA.1 hi).1
  have Na:M[i]?=some M[i]:=aV Mm
  rw[hi]at zJ
  simp only[Option.bind_some,Na,bH]at zJ ⊢
  simp only[Instr.lookup,aU,bC ht.out,aC,getObj,fo,hb,hk.check,zJ,bN]
  grind
theorem qS[DecidableEq K]{bo:K->Value}{i:Operand}{M:List (K×Value)}(y:K)[ht:xy P t kt et][hf:FM Hs bl bo M F](hk:Keyed P kt bo)(hw:aJ ops vs ⟨some d,.lookup t x i false,ty,pos,af,g⟩=some true)(hn:aH d N=true)(hx:eo vs x=some (.map (some bl)))(hi:eo vs i=some (bo y))(hz:∀w,fB M y=none->(zeroValue et).run P w=.ok zv w)(h:X P b β (some (ops,rest)) k ⟨N,(d,(fB M y).getD zv)::vs,ds⟩ Hs R):
 X P b β (some (ops,⟨some d,.lookup t x i false,ty,pos,af,g⟩::rest)) k ⟨N,vs,ds⟩ Hs R:=
 X.val U hn hw (λa w he hs=>by
  have e1:=aO he hx;have e2:=aO he hi;simp only[execOp,e1,e2,aU,C7 hk hs hf.out y zv (hz w) false,aC,bN];simp) h
theorem UG[DecidableEq K]{bo:K->Value}{i:Operand}{M:List (K×Value)}(y:K)[ht:xy P t kt et][hf:FM Hs bl bo M F](hk:Keyed P kt bo)(hw:aJ ops vs ⟨some d,.lookup t x i true,ty,pos,af,g⟩=some true)(hn:aH d N=true)(hx:eo vs x=some (.map (some bl)))(hi:eo vs i=some (bo y))(hz:∀w,fB M y=none->(zeroValue et).run P w=.ok zv w)(h:X P b β (some (ops,rest)) k ⟨N,(d,.tuple #[(fB M y).getD zv,.bool (fB M y).isSome])::vs,ds⟩ Hs R):
 X P b β (some (ops,⟨some d,.lookup t x i true,ty,pos,af,g⟩::rest)) k ⟨N,vs,ds⟩ Hs R:=
 X.val U hn hw (λa w he hs=>by
  have e1:=aO he hx;have e2:=aO he hi;simp only[execOp,e1,e2,aU,C7 hk hs hf.out y zv (hz w) true,aC,bN];simp) h
theorem qi[hkk:Kt.nU k][DecidableEq K]{bo:K->Value}{m i:Operand}{M:List (K×Value)}(y:K)[ht:xy P t kt et][hf:FM Hs bl bo M F](hk:Keyed P kt bo)(hw:aJ ops vs ⟨none,.mapUpdate t m i x,ty,pos,af,g⟩=some true)(hm:eo vs m=some (.map (some bl)))(hi:eo vs i=some (bo y))(hx:eo vs x=some v)(h:X P b β (some (ops,rest)) k ⟨N,vs,ds⟩ (mp bo bl (gJ M y v)::F) R):
 X P b β (some (ops,⟨none,.mapUpdate t m i x,ty,pos,af,g⟩::rest)) k ⟨N,vs,ds⟩ Hs R:=
 Jq U hw (λa w he hs=>by
  have e1:=aO he hm
  have e2:=aO he hi
  have e3:=aO he hx
  obtain⟨w',h1,h2⟩:=C3 (P:=P) (t:=t) hk (hs.cd hf.out) y v
  grind [execOp,aU,aC,bN]) h
theorem lz[hkk:Kt.nU k][DecidableEq K]{bo:K->Value}{m i:Operand}{M:List (K×Value)}(y:K)[ht:xy P t kt et][hf:FM Hs bl bo M F](hk:Keyed P kt bo)(hw:aJ ops vs ⟨none,.insert t m i x,ty,pos,af,g⟩=some true)(hm:eo vs m=some (.map (some bl)))(hi:eo vs i=some (bo y))(hx:eo vs x=some v)(h:X P b β (some (ops,rest)) k ⟨N,vs,ds⟩ (mp bo bl (gJ M y v)::F) R):
 X P b β (some (ops,⟨none,.insert t m i x,ty,pos,af,g⟩::rest)) k ⟨N,vs,ds⟩ Hs R:=
 Jq U hw (λa w he hs=>by
  have e1:=aO he hm
  have e2:=aO he hi
  have e3:=aO he hx
  obtain⟨w',h1,h2⟩:=C3 (P:=P) (t:=t) hk (hs.cd hf.out) y v
  grind [execOp,aU,aC,bN]) h
theorem Mv{bo:K->Value}{M:List (K×Value)}[ht:xy P t kt et][hf:FM Hs bl bo M F](hw:aJ ops vs ⟨some d,.call ⟨.builtin .len,#[x],#[t]⟩,ty,pos,af,g⟩=some true)(hn:aH d N=true)(hx:eo vs x=some (.map (some bl)))(h:X P b β (some (ops,rest)) k ⟨N,(d,.int .i64 M.length)::vs,ds⟩ Hs R):X P b β (some (ops,⟨some d,.call ⟨.builtin .len,#[x],#[t]⟩,ty,pos,af,g⟩::rest)) k ⟨N,vs,ds⟩ Hs R:=
 X.val U hn hw (λa w he hs=>by
  have e1:=aO he hx;obtain⟨o,⟨es,mX,rfl,h1,h2,h3⟩,hs⟩:=Sat.map (hs.cd hf.out);have hb:=dS hs;have hlen:es.size=M.length:=bf7;simp[execOp,resolve,invoke,builtin,Builtin.len_,e1,bC ht.out,goInt,getObj,fo,hb,hlen]) h
end
end
section
variable{args:Array Value}{ι:Type}{f:FuncId}{A rest F:List az}{Q:Value->List az->Prop}{a:Option Addr}{xs:List Operand}{qW:Array TypeId}{v:Value}{p:Prop}{us:List Value}{x0:Item}{sz:Nat}(bl:Nat)
def RSl{α:Type}(R:Rp α)(sz:Nat):Rp (List α):=⟨λr l x=>∃a c,l=[.slice a x.length c]/\x.length<=c/\vW R sz a x r,λhr ⟨a,c,h1,h2,h3⟩=>⟨a,c,h1,h2,h3.mono hr⟩⟩
section
variable{P:Program}{vs:List (Nat×Value)}{rest:List Oper}
theorem au6{cc:Option (Array Oper×List Oper)}{E:Env}{α:Type}{Re:Rp α}{o:Nat}{x:α}[hf:C2 Hs bl Re sz o x](cs:ι->List Value)(p:ι->Hp->Prop)(hm:∀i r r',Hp.le r r'->p i r->p i r')(hR:∀r l,Re.h r l x->∃i,l=cs i/\p i r)(h:∀i,X P b β cc k E (el (bp (λ_:Unit=>cs i)) sz bl o ()::ro (p i)::Hs) R):X P b β cc k E Hs R:=by
 have key:∀w,Sat β Hs w->∃i,Sat β (el (bp (λ_:Unit=>cs i)) sz bl o ()::ro (p i)::Hs) w:=by
  intro w hs;obtain⟨r,o',h0,hft,iz,pf⟩:=hs;obtain⟨rr,hr⟩:=hf.out;obtain⟨o1,o2,hd,h1,h2,hp,JM⟩:=hr r o' iz;obtain⟨l,h3,h4,h5⟩:=hp r (.refl _);obtain⟨i,h6,h7⟩:=hR r l h5;refine⟨i,r,o',h0,hft,⟨fL,o',cR _,cJ _,.refl _,λr' nG=>⟨l,h3,h4.mono nG,h6⟩,fL,o',cR _,cJ _,.refl _,λr' nG=>hm i _ _ nG h7,iz⟩,pf⟩
 intro hb
 cases cc with
 |none=>exact λa w he hs=>let⟨i,hi⟩:=key w hs;h i hb a w he hi
 |some c=>exact λa w he hs=>let⟨i,hi⟩:=key w hs;h i hb a w he hi
theorem bc7{cc:Option (Array Oper×List Oper)}{E:Env}{α:Type}{Re:Rp α}{o PM:Nat}{x:List α}[hf:C2 Hs bl (RSl Re PM) sz o x](h:∀a c,x.length<=c->X P b β cc k E (el (bp (λ_:Unit=>[.slice a x.length c])) sz bl o ()::bV Re PM a x::Hs) R):X P b β cc k E Hs R:=
 au6 bl (Re:=RSl Re PM) (x:=x) (ι:={p:Option Addr×Nat // x.length<=p.2}) (λp=>[.slice p.1.1 x.length p.1.2]) (λp=>vW Re PM p.1.1 x) (λp r r' hr h=>h.mono hr)
  (λr l ⟨a,c,h1,h2,h3⟩=>⟨⟨(a,c),h2⟩,h1,h3⟩) (λp=>h p.1.1 p.1.2 p.2)
end
class CX(P:Program)(f:Nat)(e:outParam (Array Value->Sem Value)):Prop where out:∀args w,(callFunc f args).run P w=((e args).run P w).andThen λv w'=>.ok (.value v) w'
theorem zZ{sz:Nat}{w:World}{xs:List UInt8}(h:vW RB 1 a xs (hp w))(me:xs≠[]):∃b o,a=some ⟨b,o,none⟩/\∀i,i<xs.length->w.cell? ⟨b,o+i,none⟩=some (.int .u8 ((xs.map λx=>(x.toNat:Int)).getD i 0)):=by
 rcases h with h|⟨b,o,h1,h2⟩
 ·grind
 ·refine⟨b,o,h1,λi hi=>?_⟩
  obtain⟨l,h3,h4,h5⟩:=h2 i xs[i] (aV hi)
  have h5':l=[fO xs[i]]:=h5
  subst h5'
  have:=h4.cell (j:=0) (v:=fO xs[i]) U
  grind [fO]
theorem Bj(xs:List UInt8):Lib.bytesOf (xs.map λx=>(x.toNat:Int))=xs:=by
 unfold Lib.bytesOf;rw[cz];conv=>rhs;rw[<-List.map_id xs]
 apply bQ;simp_all
section
variable{P:Program}{vs:List (Nat×Value)}{rest:List Oper}
theorem CW{f:Nat}{e:Array Value->Sem Value}[hc:CX P f e](hw:aJ ops vs ⟨some d,.call ⟨.value (.func f),xs.toArray,qW⟩,ty,pos,af,g⟩=some true)(hn:aH d N=true)(hx:nk vs xs=some us)(hr:∀w,Sat β Hs w->(e us.toArray).run P w=.ok v w)(h:X P b β (some (ops,rest)) k ⟨N,(d,v)::vs,ds⟩ Hs R):
 X P b β (some (ops,⟨some d,.call ⟨.value (.func f),xs.toArray,qW⟩,ty,pos,af,g⟩::rest)) k ⟨N,vs,ds⟩ Hs R:=
 X.val U hn hw (λa w he hs=>by
  have h1:=kO he hx;have h2:xs.toArray.map a.eval=us.toArray:=bE;have h3:a.eval (.func f)=.func (.func f) #[] #[]:=U;have h4:=hc.out us.toArray w;rw[hr w hs]at h4;simp only[execOp,resolve,h2,h3,Deferred.ofValue,invoke,aU,bN,aC];simp_all) h
theorem aa1{cc:Option (Array Oper×List Oper)}{k k2:List Item}(n:Nat)(_:k.drop n=k2)(st:ι->List (Nat×Value)×List az)(fin:∀i,X P b β none (.it k2) ⟨N,(st i).1,ds⟩ (st i).2 R)(main:(∀i,X P b β none (.it k2) ⟨N,(st i).1,ds⟩ (st i).2 R)->X P b β cc (.it k) ⟨N,vs,ds⟩ Hs R):X P b β cc (.it k) ⟨N,vs,ds⟩ Hs R:=main fin
theorem ng[hk:Kt.nU k]{G:bZ}(hG:G.on β){f:Nat}{t:Nat}{fst cap:List Value}(hT:TR P G f (fst++us++cap).toArray A (cT v))[rH:CF P f](hw:aJ ops vs ⟨some d,.call ⟨.value (.tmp t),xs.toArray,qW⟩,ty,pos,af,g⟩=some true)(hn:aH d N=true)(ht:lk vs t=some (.func (.func f) fst.toArray cap.toArray))(hx:nk vs xs=some us)[hA:EK Hs A](h:X P b β (some (ops,rest)) k ⟨N,(d,v)::vs,ds⟩ Hs R):
 X P b β (some (ops,⟨some d,.call ⟨.value (.tmp t),xs.toArray,qW⟩,ty,pos,af,g⟩::rest)) k ⟨N,vs,ds⟩ Hs R:=
 gW hG hT hw hn ht hx hA.out (by rintro _ _ ⟨rfl,rfl⟩;exact h)
end
theorem ad4{P:Program}{β:bS}{Hs:List az}{w:World}{n c:Nat}{xs:List UInt8}(cv:UInt8)(hs:Sat β Hs w)[hf:zI Hs a RB 1 xs](hn:xs.length=n):
 (Extern.BytealgIndexByte.indexByte #[.slice a n c,.int .u8 cv.toNat]).run P w=.ok (.int .i64 (cE xs cv)) w:=by
 obtain⟨rr,hr⟩:=hf.out
 have h1:vW RB 1 a xs (hp w):=Sat.ro (hs.cd hr)
 by_cases me:xs=[]
 ·subst me;simp at hn;subst hn;cases a with
  |none=>exact Lib.run_indexByteNil (P:=P) w 0 c cv.toNat
  |some a=>
   refine Eq.trans ?_ (Lib.run_indexByteNil (P:=P) w 0 c cv.toNat);rfl
 ·obtain⟨b,o,rfl,h2⟩:=zZ (sz:=1) h1 me;have:=Lib.run_indexByteSlice (P:=P) w b o n c (xs.map λx=>(x.toNat:Int)) Rb (by intro i hi;exact h2 i av) cv.toNat;rw[this,Bj];simp
def pu(p:Prop):az:=⟨λ_ _=>p,λ_ _ h=>h⟩
def ex{ι:Type}(f:ι->List az):az:=⟨λr o=>∃i,nK (f i) r o,λhr ho ⟨i,h⟩=>⟨i,js _ hr ho h⟩⟩
def orA(p q:az):az:=⟨λr o=>p.h r o\/q.h r o,λhr ho h=>h.elim (λh=>.inl (p.mono hr ho h)) (λh=>.inr (q.mono hr ho h))⟩
theorem gU{f:ι->List az}(i:ι)(F:List az):aN (f i++F) (ex f::F):=by
 intro r o h;obtain⟨o1,o2,hd,h1,h2,ha,hb⟩:=jJ.1 h;exact⟨o1,o2,hd,h1,h2,⟨i,ha⟩,hb⟩
theorem dY(hp:p)(F:List az):aN F (pu p::F):=
 λ_ o h=>⟨fL,o,cR _,cJ _,.refl _,hp,h⟩
theorem br7(p q:az)(F:List az):aN (p::F) (orA p q::F):=λ_ _ ⟨o1,o2,hd,h1,h2,hp,hs⟩=>⟨o1,o2,hd,h1,h2,.inl hp,hs⟩
theorem di:∀{a b:List az},a.Perm b->aN a b:=by
 intro a b h;induction h with
 |nil=>exact aN.refl _
 |cons p _ ih=>exact aN.cons p ih
 |swap p q a=>exact cQ q p a
 |trans _ _ ih1 pG=>exact ih1.trans pG
theorem iQ{B:List az}(h:aN A B)(F:List az):aN (A++F) (B++F):=by
 intro r o hs;obtain⟨o1,o2,hd,h1,h2,ha,hb⟩:=jJ.1 hs;exact jJ.2 ⟨o1,o2,hd,h1,h2,h _ _ ha,hb⟩
theorem ur(A B:List az):aN (A++B) (B++A):=di cG
theorem iX{β:bS}{f:ι->List az}{w:World}(h:Sat β (ex f::F) w):∃i,Sat β (f i++F) w:=by
 obtain⟨r,o,h0,hf,⟨o1,o2,hd,h1,h2,⟨i,hi⟩,hs⟩,pf⟩:=h;exact⟨i,r,o,h0,hf,jJ.2 ⟨o1,o2,hd,h1,h2,hi,hs⟩,pf⟩
theorem ln{β:bS}{w:World}(h:Sat β (pu p::F) w):p/\Sat β F w:=by
 have h':=h.cd (aN.drop _ _);obtain⟨r,o,h0,hf,⟨o1,o2,hd,h1,h2,hp,hs⟩,pf⟩:=h;exact⟨hp,h'⟩
class FK(Hs:List az){κ α:Type}(pred:κ->α->az)(key:κ)(x:outParam α)(rest:outParam (List az)):Prop where out:aN Hs (pred key x::rest)
instance FK.here{κ α:Type}(pred:κ->α->az)(key:κ)(x:α)(Hs:List az):FK (pred key x::Hs) pred key x Hs:=⟨aN.refl _⟩
instance(priority:=low) FK.there(p:az)(Hs:List az){κ α:Type}(pred:κ->α->az)(key:κ)(x:α)(rest:List az)[h:FK Hs pred key x rest]:FK (p::Hs) pred key x (p::rest):=
 ⟨(aN.cons p h.out).trans (cQ _ _ _)⟩
class FEx(Hs:List az){ι:outParam Type}(f:outParam (ι->List az))(rest:outParam (List az)):Prop where out:aN Hs (ex f::rest)
class FPu(Hs:List az)(p:outParam Prop)(rest:outParam (List az)):Prop where out:aN Hs (pu p::rest)
instance FPu.here(p:Prop)(Hs:List az):FPu (pu p::Hs) p Hs:=⟨aN.refl _⟩
instance(priority:=low) FPu.there(q:az)(Hs:List az)(p:Prop)(rest:List az)[h:FPu Hs p rest]:FPu (q::Hs) p (q::rest):=
 ⟨(aN.cons q h.out).trans (cQ _ _ _)⟩
class Nf(p:az):Prop where out:∀r o,p.h r o->p.h fL o
instance(b ty:Nat)(cs:List Value):Nf (bx b ty cs):=⟨λ_ _ h=>h⟩
instance(e sz:Nat)(a:Option Addr)(n c:Nat)(xs:List Value):Nf (own e sz a n c xs):=⟨λ_ _ h=>h⟩
instance {K:Type}(bo:K->Value)(b:Nat)(M:List (K×Value)):Nf (mp bo b M):=⟨λ_ _ h=>h⟩
instance(p:Prop):Nf (pu p):=⟨λ_ _ h=>h⟩
class rP(B:List az):Prop where out:∀p∈B,Nf p
instance:rP []:=⟨λ_ h=>by cases h⟩
instance(p:az)(B:List az)[h:Nf p][h2:rP B]:rP (p::B):=⟨λq hq=>by
 rcases bK.1 hq with rfl|hq
 ·exact h
 ·exact h2.out q hq⟩
theorem rP.append{B:List az}(h:rP A)(k:rP B):rP (A++B):=⟨λp hp=>(cM.1 hp).elim (h.out p) (k.out p)⟩
theorem rP.nK:∀{B:List az} (_:rP B) {r o:Hp},nK B r o->nK B fL o
 |[],_,_,_,_=>trivial
 |p::B,h,r,o,⟨o1,o2,hd,h1,h2,hp,hs⟩=>⟨o1,o2,hd,h1,h2,(h.out p nH).out _ _ hp,rP.nK ⟨λq hq=>h.out q (by simp[hq])⟩ hs⟩
theorem aR8{f:ι->List az}(h:∀i,rP (f i)):Nf (ex f):=⟨λ_ _ ⟨i,hi⟩=>⟨i,(h i).nK hi⟩⟩
def Hp.del(r:Hp)(b:Nat):Hp:=λn=>if n=b then none else r n
section
variable{P:Program}
theorem TR.dH{A':List az}{R R':Ending->List az->Prop}(h:TR P G f args A R)(hA:aN A' A)(hR:∀e B,R e B->∃B',R' e B'/\aN B B'):TR P G f args A' R':=
 λβ w hG hs=>(h β w hG (hs.cd hA)).mono λe w' ⟨B,hB,zU⟩=>let⟨B',h1,h2⟩:=hR e B hB;⟨B',h1,zU.cd h2⟩
theorem TR.vs{A':List az}{R:Ending->List az->Prop}(h:TR P G f args A R)(hA:VS A' A):TR P G f args A' R:=
 λβ w hG hs=>h β w hG (hA β w hs)
theorem MP{g:ι->List az}{R:Ending->List az->Prop}(h:∀i,TR P G f args (g i++F) R):TR P G f args (ex g::F) R:=
 λβ w hG hs=>let⟨i,hi⟩:=iX hs;h i β w hG hi
theorem TR.pure(h:∀w,Calls P f args w λe w'=>e=.returned v/\w'=w)(A:List az:=[]):TR P G f args A (cT v):=
 λβ w _ hs=>(h w).mono λe w' ⟨h1,h2⟩=>by subst h1;subst h2;exact⟨[],⟨U,U⟩,hs.cd (aN.nil _)⟩
theorem Pu{b:Nat}{x:Obj}(h:TR P G f args (ro (λr=>r b=some x)::A) (cb Q))(hQ:∀v B,Q v B->rP B):
 TR P G f args (pt b x::A) (cb λv B=>∃B',Q v B'/\B=pt b x::B'):=by
 intro β w hG hs
 obtain⟨r,o,h0,hf,⟨o1,o2,hd,h1,h2,kL,iz⟩,pf⟩:=hs
 have M3:o1 b=some x:=kL
 have hob:o b=some x:=h1 _ _ M3
 have hr:r b=none:=bf1
 have PA:β.f b=none:=aX3
 have ZR:o2 b=none:=bf2
 have jD:∀{q:Hp},q b=none->lA (Hp.one b x) q:=by
  intro q hq n
  grind [Hp.one]
 have hole:Hp.le (Hp.one b x) (hp w):=bp4
 have Q7:Hp.le r (kN (Hp.one b x) r):=fh (jD hr)
 refine(h ⟨w,kN (Hp.one b x) r,β.f,β.q⟩ w (G.mono (β':=⟨w,kN (Hp.one b x) r,β.f,β.q⟩) ⟨h0.trans Q7,U⟩ hG) ⟨_,o2,.refl _,⟨kM hole hf.r,h2.trans hf.o,hf.f,?_,?_,hf.of.mono h2 (.refl _)⟩,?_,wH.refl _⟩).mono ?_
 ·exact bp5
 ·exact gI (jD PA) hf.rf
 ·refine⟨fL,o2,cR _,cJ _,.refl _,?_,js A Q7 (.refl _) iz⟩;exact aM6
 ·rintro e w' ⟨B,hB,r2,o3,ZV,JN,JM,hsm2⟩;cases e with
  |returned v=>
   have hr2b:r2 b=some x:=ZV _ _ (fT _ _ _ _ (by simp[Hp.one]));have ho3b:o3 b=none:=by rcases JN.ro b with h|h;all_goals grind
   have hdel:Hp.le (r2.del b) r2:=by intro n z hn;grind [Hp.del]
   refine⟨pt b x::B,⟨B,hB,U⟩,r2.del b,kN (Hp.one b x) o3,?_,⟨hdel.trans JN.r,kM ?_ JN.o,JN.f,?_,JN.rf.mono hdel (.refl _),gI (jD PA) JN.of⟩,?_,pf.trans hsm2⟩
   ·intro n z hn;have ZW:=ZV _ _ (Q7 _ _ (h0 _ _ hn));unfold Hp.del;split
    ·rename_i e;subst e;rw[h0 _ _ hn]at hr;cases hr
    ·exact ZW
   ·intro n z hn;unfold Hp.one at hn;split at hn
    ·rename_i e;cases hn;rw[e];exact JN.r _ _ hr2b
    ·cases hn
   ·exact(gI (jD (by simp[Hp.del])) (JN.ro.mono hdel (.refl _)).symm).symm
   ·exact⟨Hp.one b x,o3,jD ho3b,fT _ _,fh (jD ho3b),by show Hp.one _ _ _=_;simp[Hp.one],js B (cJ _) (.refl _) ((hQ v B hB).nK JM)⟩
  |panicked ch=>exact hB.elim
  |outgrown=>exact hB.elim
theorem mf{α:Type}{bo:α->List Value}{e n c:Nat}{xs:List α}(h:TR P G f args (bV (bp bo) sz a xs::A) (cb Q))(hQ:∀v B,Q v B->rP B)(hn:n=xs.length)(kF:∀x,(bo x).length=sz):
 TR P G f args (own e sz a n c (xs.flatMap bo)::A) (cb λv B=>∃B',Q v B'/\B=own e sz a n c (xs.flatMap bo)::B'):=by
 intro β w hG hs
 rcases dx hs with⟨rfl,rfl,rfl,M9,h2⟩|⟨g,cur,rfl,h3,h6,h7,h8,h9,h2⟩
 ·have hx:xs=[]:=by grind
  subst hx;refine(h β w hG (h2.cd ?_)).mono ?_
  ·exact λr o h=>⟨fL,o,cR _,cJ _,.refl _,λr' _=>.inl U,h⟩
  ·rintro e' w' ⟨B,hB,zU⟩;cases e' with
   |returned v=>exact⟨_,⟨B,hB,U⟩,iZ _ _ zU⟩
   |panicked ch=>exact hB.elim
   |outgrown=>exact hB.elim
 ·have key:TR P G f args (ro (λr=>r g=some (.cells cur e (0,0)))::A) (cb Q):=by
   refine h.dH ?_ (λe B hB=>⟨B,hB,aN.refl _⟩)
   rintro r o ⟨o1,o2,hd,h1,M6,hp,iz⟩
   refine⟨fL,o2,cR _,cJ _,M6,λr' nG=>?_,iz⟩
   have hg:=hp r' nG
   refine .inr ⟨g,0,U,λi x hx=>⟨bo x,kF x,⟨cur,e,(0,0),hg,λj v hv=>?_⟩,U⟩⟩
   have h12:=qX (sz:=sz) (ls:=xs.map bo) (i:=i) (j:=j) (l:=bo x) (v:=v) bE bE hv
   grind
  refine(Pu key hQ β w hG h2).mono ?_;rintro e' w' ⟨B,hB,zU⟩;cases e' with
  |returned v=>
   obtain⟨B',hB',rfl⟩:=hB;exact⟨_,⟨B',hB',U⟩,fK zU h3 h6 h7 h8 h9⟩
  |panicked ch=>exact hB.elim
  |outgrown=>exact hB.elim
end
section
variable{P:Program}
theorem jo(h:∀w,Sat β Hs w->∃Hs',Sat β Hs' w/\X P b β cc k E Hs' R):X P b β cc k E Hs R:=by
 intro hb;cases cc with
 |none=>exact λa w he hs=>let⟨_,h1,h2⟩:=h w hs;h2 hb a w he h1
 |some c=>exact λa w he hs=>let⟨_,h1,h2⟩:=h w hs;h2 hb a w he h1
theorem lj[hf:FPu Hs p rest](h:p->X P b β cc k E rest R):X P b β cc k E Hs R:=
 jo λ_ hs=>let⟨h1,h2⟩:=ln (hs.cd hf.out);⟨_,h2,h h1⟩
theorem X.ma{κ α:Type}(pred:κ->α->az)(key:κ){x:α}[hf:FK Hs pred key x rest]{f:ι->List az}(hd:pred key x=ex f)(h:∀i,X P b β cc k E (f i++rest) R):X P b β cc k E Hs R:=
 jo λ_ hs=>let⟨i,hi⟩:=iX (hd▸hs.cd hf.out);⟨_,hi,h i⟩
theorem fi{κ α:Type}(pred:κ->α->az)(key:κ)(x:α){f:ι->List az}(hd:pred key x=ex f)(i:ι)[he:ES Hs (f i) rest](h:X P b β cc k E (pred key x::rest) R):X P b β cc k E Hs R:=
 X.cd (he.out.trans (hd▸gU i rest)) h
end
section
variable{P:Program}{vs:List (Nat×Value)}
theorem ab0{k:List Item}(st:ι->List (Nat×Value)×List az)(fin:∀i,X P b β none (.it k) ⟨N,(st i).1,ds⟩ (st i).2 R)(main:∀K,(∀i,X P b β none (.it K) ⟨N,(st i).1,ds⟩ (st i).2 R)->X P b β cc (.it (K)) ⟨N,vs,ds⟩ Hs R):X P b β cc (.it (k)) ⟨N,vs,ds⟩ Hs R:=main k fin
theorem jI{k:List Item}(st:ι->List (Nat×Value)×List az)(fin:∀i,X P b β none (.it k) ⟨N,(st i).1,ds⟩ (st i).2 R)(main:∀K,(∀i,X P b β none (.it K) ⟨N,(st i).1,ds⟩ (st i).2 R)->X P b β cc (.it (x0::K)) ⟨N,vs,ds⟩ Hs R):X P b β cc (.it (x0::k)) ⟨N,vs,ds⟩ Hs R:=main k fin
theorem nh{x1:Item}{k:List Item}(st:ι->List (Nat×Value)×List az)(fin:∀i,X P b β none (.it k) ⟨N,(st i).1,ds⟩ (st i).2 R)(main:∀K,(∀i,X P b β none (.it K) ⟨N,(st i).1,ds⟩ (st i).2 R)->X P b β cc (.it (x0::x1::K)) ⟨N,vs,ds⟩ Hs R):X P b β cc (.it (x0::x1::k)) ⟨N,vs,ds⟩ Hs R:=main k fin
end
end
end Go.Sl
set_option linter.unusedVariables false
namespace Go.Sl
theorem Sub.of{l m:List (Nat×Value)}(h:l.map (λx=>lk m x.1)=l.map λx=>some x.2):Sub l m:=by
 induction l with
 |nil=>exact Sub.nil _
 |cons x r ih=>
  rw[aK,aK,List.cons.injEq]at h;exact Sub.cons h.1 (ih h.2)
inductive Lk:List (Nat×Value)->Nat->Value->Prop
 |hit {j v r}:Lk ((j,v)::r) j v
 |Ng {x r j v}:Lk r j v->Lk (x::r) j v
inductive Pk(vs:List (Nat×Value)):List Nat->List (Nat×Value)->Prop
 |nil:Pk vs [] []
 |cons {j v l r}:Lk vs j v->Pk vs l r->Pk vs (j::l) ((j,v)::r)
inductive Rm:List az->Nat->az->List az->Prop
 |zero {a l}:Rm (a::l) 0 a l
 |succ {a b l n r}:Rm l n a r->Rm (b::l) (n+1) a (b::r)
inductive Ph:List az->List Nat->List az->List az->Prop
 |nil {l}:Ph l [] [] l
 |cons {l n a r ns h k}:Rm l n a r->Ph r ns h k->Ph l (n::ns) (a::h) k
theorem Rm.cd{l n a r}(h:Rm l n a r):aN l (a::r):=by
 induction h with
 |zero=>exact aN.refl _
 |succ _ ih=>exact(aN.cons _ ih).trans (cQ _ _ _)
theorem Ph.cd{l ns h k}(p:Ph l ns h k):aN l (h++k):=by
 induction p with
 |nil=>exact aN.refl _
 |cons h _ ih=>exact h.cd.trans (aN.cons _ ih)
inductive Nx:List az->Nat->az->Prop
 |zero {a l}:Nx (a::l) 0 a
 |succ {a b l n}:Nx l n a->Nx (b::l) (n+1) a
inductive Px:List az->List Nat->List az->Prop
 |nil {l}:Px l [] []
 |cons {l n a ns r}:Nx l n a->Px l ns r->Px l (n::ns) (a::r)
def ltN(n i:Nat):Bool:=aH i n
section
variable {P:Program}{b:Frame}{β:bS}{N:Nat}{vs:List (Nat×Value)}{ds:List Deferred}{Hs:List az}{R:Ending->List az->Prop}{cc:Option (Array Oper×List Oper)}
theorem eT(kp ci:List Nat){k:List Item}{ι:Type}(dv:ι->List (Nat×Value)->List (Nat×Value))(dh:ι->List az->List az)(μ:ι->Nat)(i₀:ι){c:Code}{kv:List (Nat×Value)}{h0 kh:List az}
 (body:∀i,(∀i',μ i'<μ i->X P b β none (.it (.inLoop c::k)) ⟨N,dv i' kv,ds⟩ (dh i' kh) R)->X P b β none (.it (.code c::.inLoop c::k)) ⟨N,dv i kv,ds⟩ (dh i kh) R)
 (hk:Pk vs kp kv:=by repeat(first|exact Pk.nil|exact Lk.hit|apply Lk.Ng|apply Pk.cons))
 (hh:Ph Hs ci h0 kh:=by repeat(first|exact Ph.nil|exact Rm.zero|apply Rm.succ|apply Ph.cons))
 (hs:Sub (dv i₀ kv) vs:=by first|exact Sub.of rfl|(repeat(first|exact Sub.nil _|refine Sub.cons rfl ?_|refine Sub.cons (eN rfl pH) ?_|refine Sub.cons (eN rfl av) ?_|refine Sub.cons (eN rfl (by simp[aX];omega)) ?_)))
 (he:aN (h0++kh) (dh i₀ kh):=by first|exact aN.refl _|exact aN.drop _ _|exact(aN.drop _ _).trans (aN.drop _ _)|exact(aN.drop _ _).trans ((aN.drop _ _).trans (aN.drop _ _))|exact ay):
 X P b β none (.it (.code (.loop c)::k)) ⟨N,vs,ds⟩ Hs R:=
 X.loop (λi=>(dv i kv,dh i kh)) μ i₀ hs (hh.cd.trans he) body
theorem bA6(kp ci:List Nat){k:List Item}{ι:Type}(dv:ι->List (Nat×Value)->List (Nat×Value))(dh:ι->List az->List az){kv:List (Nat×Value)}{h0 kh:List az}
 (fin:∀i,X P b β none (.it k) ⟨N,dv i kv,ds⟩ (dh i kh) R)(main:∀K,(∀i,X P b β none (.it K) ⟨N,dv i kv,ds⟩ (dh i kh) R)->X P b β cc (.it (K)) ⟨N,vs,ds⟩ Hs R)
 (hk:Pk vs kp kv:=by repeat(first|exact Pk.nil|exact Lk.hit|apply Lk.Ng|apply Pk.cons))
 (hh:Ph Hs ci h0 kh:=by repeat(first|exact Ph.nil|exact Rm.zero|apply Rm.succ|apply Ph.cons)):
 X P b β cc (.it (k)) ⟨N,vs,ds⟩ Hs R:=main k fin
theorem tU(kp ci:List Nat){x0:Item}{k:List Item}{ι:Type}(dv:ι->List (Nat×Value)->List (Nat×Value))(dh:ι->List az->List az){kv:List (Nat×Value)}{h0 kh:List az}
 (fin:∀i,X P b β none (.it k) ⟨N,dv i kv,ds⟩ (dh i kh) R)(main:∀K,(∀i,X P b β none (.it K) ⟨N,dv i kv,ds⟩ (dh i kh) R)->X P b β cc (.it (x0::K)) ⟨N,vs,ds⟩ Hs R)
 (hk:Pk vs kp kv:=by repeat(first|exact Pk.nil|exact Lk.hit|apply Lk.Ng|apply Pk.cons))
 (hh:Ph Hs ci h0 kh:=by repeat(first|exact Ph.nil|exact Rm.zero|apply Rm.succ|apply Ph.cons)):
 X P b β cc (.it (x0::k)) ⟨N,vs,ds⟩ Hs R:=main k fin
theorem aa9(kp ci:List Nat){x0 x1:Item}{k:List Item}{ι:Type}(dv:ι->List (Nat×Value)->List (Nat×Value))(dh:ι->List az->List az){kv:List (Nat×Value)}{h0 kh:List az}
 (fin:∀i,X P b β none (.it k) ⟨N,dv i kv,ds⟩ (dh i kh) R)(main:∀K,(∀i,X P b β none (.it K) ⟨N,dv i kv,ds⟩ (dh i kh) R)->X P b β cc (.it (x0::x1::K)) ⟨N,vs,ds⟩ Hs R)
 (hk:Pk vs kp kv:=by repeat(first|exact Pk.nil|exact Lk.hit|apply Lk.Ng|apply Pk.cons))
 (hh:Ph Hs ci h0 kh:=by repeat(first|exact Ph.nil|exact Rm.zero|apply Rm.succ|apply Ph.cons)):
 X P b β cc (.it (x0::x1::k)) ⟨N,vs,ds⟩ Hs R:=main k fin
theorem bA8(kp ci:List Nat){x0 x1 x2:Item}{k:List Item}{ι:Type}(dv:ι->List (Nat×Value)->List (Nat×Value))(dh:ι->List az->List az){kv:List (Nat×Value)}{h0 kh:List az}
 (fin:∀i,X P b β none (.it k) ⟨N,dv i kv,ds⟩ (dh i kh) R)(main:∀K,(∀i,X P b β none (.it K) ⟨N,dv i kv,ds⟩ (dh i kh) R)->X P b β cc (.it (x0::x1::x2::K)) ⟨N,vs,ds⟩ Hs R)
 (hk:Pk vs kp kv:=by repeat(first|exact Pk.nil|exact Lk.hit|apply Lk.Ng|apply Pk.cons))
 (hh:Ph Hs ci h0 kh:=by repeat(first|exact Ph.nil|exact Rm.zero|apply Rm.succ|apply Ph.cons)):
 X P b β cc (.it (x0::x1::x2::k)) ⟨N,vs,ds⟩ Hs R:=main k fin
theorem bA7(kp ci:List Nat){x0 x1 x2 x3:Item}{k:List Item}{ι:Type}(dv:ι->List (Nat×Value)->List (Nat×Value))(dh:ι->List az->List az){kv:List (Nat×Value)}{h0 kh:List az}
 (fin:∀i,X P b β none (.it k) ⟨N,dv i kv,ds⟩ (dh i kh) R)(main:∀K,(∀i,X P b β none (.it K) ⟨N,dv i kv,ds⟩ (dh i kh) R)->X P b β cc (.it (x0::x1::x2::x3::K)) ⟨N,vs,ds⟩ Hs R)
 (hk:Pk vs kp kv:=by repeat(first|exact Pk.nil|exact Lk.hit|apply Lk.Ng|apply Pk.cons))
 (hh:Ph Hs ci h0 kh:=by repeat(first|exact Ph.nil|exact Rm.zero|apply Rm.succ|apply Ph.cons)):
 X P b β cc (.it (x0::x1::x2::x3::k)) ⟨N,vs,ds⟩ Hs R:=main k fin
theorem bA5(kp ci:List Nat){x0 x1 x2 x3 x4:Item}{k:List Item}{ι:Type}(dv:ι->List (Nat×Value)->List (Nat×Value))(dh:ι->List az->List az){kv:List (Nat×Value)}{h0 kh:List az}
 (fin:∀i,X P b β none (.it k) ⟨N,dv i kv,ds⟩ (dh i kh) R)(main:∀K,(∀i,X P b β none (.it K) ⟨N,dv i kv,ds⟩ (dh i kh) R)->X P b β cc (.it (x0::x1::x2::x3::x4::K)) ⟨N,vs,ds⟩ Hs R)
 (hk:Pk vs kp kv:=by repeat(first|exact Pk.nil|exact Lk.hit|apply Lk.Ng|apply Pk.cons))
 (hh:Ph Hs ci h0 kh:=by repeat(first|exact Ph.nil|exact Rm.zero|apply Rm.succ|apply Ph.cons)):
 X P b β cc (.it (x0::x1::x2::x3::x4::k)) ⟨N,vs,ds⟩ Hs R:=main k fin
theorem eR[hm:PL P]{E:Env}{id:Nat}{k:List Item}{ops:Array Oper}(n:Nat)(ix:List Nat){Fx:List az}(h:X P b β none (.dr ops (ltN n) Fx [] k) E Hs R)
 (hx:Px Hs ix Fx:=by repeat(first|exact Px.nil|exact Nx.zero|apply Nx.succ|apply Px.cons))
 (jd:Bf ops.toList=true:=by exact U):X P b β none (.it (.code (.region id ops true)::k)) E Hs R:=fM _ Fx jd h
theorem nR[hm:PL P]{E:Env}{id:Nat}{k:List Item}{ops:Array Oper}(l:List Nat)(ix:List Nat){Fx:List az}(h:X P b β none (.dr ops (uC l) Fx [] k) E Hs R)
 (hx:Px Hs ix Fx:=by repeat(first|exact Px.nil|exact Nx.zero|apply Nx.succ|apply Px.cons))
 (jd:Bf ops.toList=true:=by exact U):X P b β none (.it (.code (.region id ops true)::k)) E Hs R:=fM _ Fx jd h
end
end Go.Sl
namespace Go.Sl
variable{β:bS}{Hs:List az}{b:Frame}{R:Ending->List az->Prop}{k:Kt}{N d ty:Nat}{ds:List Deferred}{ops:Array Oper}{pos:String}{af:Array Edge}{g:Option (Nat×Bool)}{E:Env}{cc:Option (Array Oper×List Oper)}{w:World}{G:bZ}{α:Type}
section
variable{l:List UInt8}{a:Option Addr}{x y:Operand}{done:List Nat}{T:Nat->Bool}{e src dst t c:Nat}{rs Fx rest:List az}{v:Value}{xs cs:List Value}{kk:List Item}{op:BinOp}{ι:Type}(n:Nat)
theorem bv8(x:UInt8):BitVec.ofInt 8 (x.toNat:Int)=x.toBitVec:=by
 simp_all
theorem bf8(x:UInt64):BitVec.ofInt 64 (x.toNat:Int)=x.toBitVec:=by
 simp_all
theorem ax7(x y:UInt8):cC.wrap ((BitVec.ofInt cC.bits (x.toNat:Int)|||BitVec.ofInt cC.bits (y.toNat:Int)).toNat:Int)=((x|||y).toNat:Int):=by
 show cC.wrap ((BitVec.ofInt 8 (x.toNat:Int)|||BitVec.ofInt 8 (y.toNat:Int)).toNat:Int)=_;exact U9
theorem aV7(x y:UInt8):cC.wrap ((BitVec.ofInt cC.bits (x.toNat:Int)&&&BitVec.ofInt cC.bits (y.toNat:Int)).toNat:Int)=((x&&&y).toNat:Int):=by
 show cC.wrap ((BitVec.ofInt 8 (x.toNat:Int)&&&BitVec.ofInt 8 (y.toNat:Int)).toNat:Int)=_;exact U9
theorem aV8(x y:UInt8):cC.wrap ((BitVec.ofInt cC.bits (x.toNat:Int)^^^BitVec.ofInt cC.bits (y.toNat:Int)).toNat:Int)=((x^^^y).toNat:Int):=by
 show cC.wrap ((BitVec.ofInt 8 (x.toNat:Int)^^^BitVec.ofInt 8 (y.toNat:Int)).toNat:Int)=_;exact U9
theorem Vl(x y:UInt64):cN.wrap ((BitVec.ofInt cN.bits (x.toNat:Int)|||BitVec.ofInt cN.bits (y.toNat:Int)).toNat:Int)=((x|||y).toNat:Int):=by
 show cN.wrap ((BitVec.ofInt 64 (x.toNat:Int)|||BitVec.ofInt 64 (y.toNat:Int)).toNat:Int)=_;rw[bf8,bf8,wrap_u64 _ (BitVec.isLt _)];rfl
theorem vr(k:IntKind)(m n:Nat)(h:n<=k.bits):((m:Int).fdiv (2^(min ((n:Int)).toNat k.bits)))=((m / 2^n:Nat):Int):=by
 grind
theorem Ri(x:UInt8):cC.wrap ((BitVec.ofInt cC.bits (x.toNat:Int)|||BitVec.ofInt cC.bits 128).toNat:Int)=((x|||128).toNat:Int):=ax7 x 128
theorem C8(x:UInt8):cC.wrap ((BitVec.ofInt cC.bits (x.toNat:Int)&&&BitVec.ofInt cC.bits 127).toNat:Int)=((x&&&127).toNat:Int):=aV7 x 127
theorem bf9(m:Nat):((m:Int).fdiv (2^(min (Int.toNat 7) cN.bits)))=((m / 128:Nat):Int):=vr .u64 m 7 de
theorem jk{a b:List az}(h:a=b):aN a b:=h▸aN.refl a
theorem eN{vs:List (Nat×Value)}{v':Value}(h:lk vs t=some v')(e:v'=v):lk vs t=some v:=e▸h
theorem Bk:cC.wrap (n:Int)=((n%256:Nat):Int):=aQ5
theorem qm:cC.wrap (n:Int)=((cu n).toNat:Int):=by
 rw[Bk];simp
theorem yv:dK.wrap (n:Int)=((n%4294967296:Nat):Int):=aQ5
theorem pI:cN.wrap (n:Int)=((n%18446744073709551616:Nat):Int):=aQ5
theorem wrap_i64(n:Int)(h1: -9223372036854775808<=n)(h2:n<=9223372036854775807):dV.wrap n=n:=IntWalk.i64_in n ⟨h1,h2⟩
section
variable{P:Program}{vs:List (Nat×Value)}{rest:List Oper}
theorem yw(l:List UInt8):Lib.strCells ⟨l.toArray⟩=l.map fO:=rfl
theorem Ft{w:World}{u ty n:Nat}(h:Sat β (own e 1 a n c xs::Hs) w)[ht:px P t e][hu:oL P u][hz:iI P e 1][T':yl P e 1][M7:TZ P e [.int .u8 0]](hb:n+l.length<=140737488355328):
 ∃a' c' w',(Builtin.append_ #[t,u] ty #[.slice a n c,ao l]).run P w=.ok (.slice a' (n+l.length) c') w'/\Sat β (own e 1 a' (n+l.length) c' (xs++l.map fO)::Hs) w':=by
 obtain⟨i,hi,yo⟩:=bk.1 hz.out
 have zV:i.bytes=1:=bh7
 obtain⟨z,hzero,ZS⟩:=bk.1 M7.out
 have sG:i.zero=some z:=bE
 have hls:(⟨l.toArray⟩:ByteArray).size=l.length:=yu l
 have M8:n+l.length<=maxLen:=aj hb ax3
 have hzs:z.cells.size=1:=by rw[show z.cells.size=z.cells.toList.length from by simp,ZS];rfl
 have hmap:(l.map fO).length=l.length:=nH
 rcases dx h with⟨rfl,rfl,rfl,rfl,hs⟩|⟨g,cur,rfl,h3,h6,h7,h8,h9,hs⟩
 ·by_cases hm:l=[]
  ·subst hm;refine⟨none,0,w,?_,iZ _ _ hs⟩;have hf:=Lib.run_firstCells_string (P:=P) w 1 (⟨#[]⟩:ByteArray);have T9:(Builtin.firstCells 1 0 (.string ⟨#[]⟩)).run P w=.ok #[] w:=hf;have hsz0:(⟨#[]⟩:ByteArray).size=0:=U;simp[Builtin.append_,bC ht.out,bC hu.out,sizeOf,typeInfo,hi,yo,Builtin.lenOf,hsz0,T9]
  ·have zW:0<l.length:=fy.2 hm
   have hr:=run_append_nil_string (P:=P) w t u ty e i z ht.out hu.out hi sG ⟨l.toArray⟩ av av bE
   simp only[aQ,hls]at M8 hr ⊢
   refine⟨_,_,_,hr,?_⟩
   have rn:=grownCap_ge w l.length 0 e
   refine fK (w:=_) (Sat.jP hs.drew _) nH rn (grownCap_le_maxLen w l.length 0 e M8) ?_ ?_
   ·grind [size_zeroCells]
   ·simp only[Array.toList_append,Array.toList_map,ai,Nat.mul_one];exact List.take_left' nH
 ·by_cases JF:n+l.length<=c
  ·have aD8:n+l.length<=cur.size:=by omega
   have hr:=Lib.run_append_room_string (P:=P) w t u ty e i ht.out hu.out hi yo g n c cur (dS hs) ⟨l.toArray⟩ av av;rw[hls]at hr;refine⟨_,_,_,hr,?_⟩;have hlen:cur.toList.length=cur.size:=nH;simp only[Nat.mul_one]at h3 h8 h9;refine fK (Sat.setRow hs) ?_ JF h7 ?_ ?_;all_goals grind [yw]
  ·have Bh:∀(j:Nat) (v:Value),xs[j]?=some v->w.cell? ((⟨g,0,none⟩:Addr).add j)=some v:=by
    intro j v hj
    rw[addr_add,aQ]
    have hg:=dS hs
    grind [gj]
   have hr:=Lib.run_append_grow_string (P:=P) w t u ty e i z ht.out hu.out hi sG ⟨g,0,none⟩ n c xs bE Bh ⟨l.toArray⟩ av av (by rw[zV,hls];exact growslice_fits av av);rw[hls]at hr;refine⟨_,_,_,hr,?_⟩;have rn:=grownCap_ge w (n+l.length) c e;refine fK (w:=_) (Sat.jP (hs.cd (aN.drop _ _)).drew _) bE rn (grownCap_le_maxLen w (n+l.length) c e M8) ?_ ?_;all_goals grind [size_zeroCells,yw]
theorem aT8[hk:Kt.nU k]{u n:Nat}[ht:px P t e][hu:oL P u][hz:iI P e 1][T':yl P e 1][M7:TZ P e [.int .u8 0]](hw:aJ ops vs ⟨some d,.call ⟨.builtin .append,#[x,y],#[t,u]⟩,ty,pos,af,g⟩=some true)(hn:aH d N=true)(hx:eo vs x=some (.slice a n c))(hy:eo vs y=some (ao l))[ho:FO Hs a e 1 n c xs rs](hb:n+l.length<=140737488355328)(h:∀a' c',X P b β (some (ops,rest)) k ⟨N,(d,.slice a' (n+l.length) c')::vs,ds⟩ (own e 1 a' (n+l.length) c' (xs++l.map fO)::rs) R):
 X P b β (some (ops,⟨some d,.call ⟨.builtin .append,#[x,y],#[t,u]⟩,ty,pos,af,g⟩::rest)) k ⟨N,vs,ds⟩ Hs R:=
 ly (ι:=Option Addr×Nat) (v:=λp=>.slice p.1 (n+l.length) p.2) (Hs':=λp=>own e 1 p.1 (n+l.length) p.2 (xs++l.map fO)::rs) U hn hw (λact w he lP=>by
  have e1:=aO he hx;have e2:=aO he hy;obtain⟨a',c',w',h4,h5⟩:=Ft (P:=P) (t:=t) (u:=u) (ty:=ty) (l:=l) (lP.cd ho.out) hb;exact⟨(a',c'),w',by simp[execOp,resolve,invoke,builtin,e1,e2,h4],h5⟩) (λp=>h p.1 p.2)
theorem bg0(l:List UInt8):strOfNums (l.map λx=>(x.toNat:Int))=⟨l.toArray⟩:=by
 apply ByteArray.ext;apply Array.toList_inj.1;rw[strOfNums_data,cz];conv=>rhs;rw[show(ByteArray.data {data:=l.toArray}).toList=l from rfl,<-List.map_id l]
 apply bQ;simp_all
theorem JO{w:World}{bl o n:Nat}[hs:px P src e][he:uy P e .u8][hd:oL P dst](hl:l.length=n)(hc:∀i,i<n->w.cell? ⟨bl,o+i,none⟩=some (.int .u8 ((l.map λx=>(x.toNat:Int)).getD i 0))):
 (convert src dst (.slice (some ⟨bl,o,none⟩) n c)).run P w=.ok (ao l) w:=by
 have:=run_convert_bytes_arg (P:=P) w src e hs.out he.out bl o n c (l.map λx=>(x.toNat:Int)) SO hc dst hd.out
 rw[this,bg0]
theorem Gm{w:World}[hs:px P src e][he:uy P e .u8][hd:oL P dst]:
 (convert src dst (.slice a 0 c)).run P w=.ok (ao []) w:=by
 cases a with
 |none=>exact run_convert_bytes_nil (P:=P) w src e hs.out he.out 0 c dst hd.out
 |some a=>
  have:=run_convert_bytes_string (P:=P) w src dst e (some a) 0 c hs.out he.out hd.out;rw[this];rfl
theorem aU2{n:Nat}[hs:px P src e][he:uy P e .u8][hd:oL P dst](hw:aJ ops vs ⟨some d,.convert src dst x,ty,pos,af,g⟩=some true)(hn:aH d N=true)(hx:eo vs x=some (.slice a n c))[hf:zI Hs a RB 1 l](hl:l.length=n)(h:X P b β (some (ops,rest)) k ⟨N,(d,ao l)::vs,ds⟩ Hs R):X P b β (some (ops,⟨some d,.convert src dst x,ty,pos,af,g⟩::rest)) k ⟨N,vs,ds⟩ Hs R:=
 X.val U hn hw (λact w FD lP=>by
  have e1:=aO FD hx;obtain⟨rr,hr⟩:=hf.out;have h1:vW RB 1 a l (hp w):=Sat.ro (lP.cd hr);by_cases me:l=[]
  ·subst me;simp at hl;subst hl;simp[execOp,e1,Gm]
  ·obtain⟨bl,o,rfl,h2⟩:=zZ (sz:=1) h1 me;simp[execOp,e1,JO (l:=l) hl (by intro i hi;exact h2 i av)]) h
theorem xV{e' n:Nat}[hs:px P src e][he:uy P e .u8][hd:oL P dst](hw:aJ ops vs ⟨some d,.convert src dst x,ty,pos,af,g⟩=some true)(hn:aH d N=true)(hx:eo vs x=some (.slice a n c))[hf:FO Hs a e' 1 n c cs rs](hl:cs=l.map fO)(h:X P b β (some (ops,rest)) k ⟨N,(d,ao l)::vs,ds⟩ Hs R):X P b β (some (ops,⟨some d,.convert src dst x,ty,pos,af,g⟩::rest)) k ⟨N,vs,ds⟩ Hs R:=
 X.val U hn hw (λact w FD lP=>by
  have e1:=aO FD hx;subst hl;rcases dx (lP.cd hf.out)with⟨rfl,rfl,rfl,M9,h2⟩|⟨g,cur,rfl,h3,h6,h7,h8,h9,h2⟩
  ·have:l=[]:=by simp_all
   subst this;simp[execOp,e1,Gm]
  ·have hln:l.length=n:=by grind
   have:=JO (P:=P) (w:=w) (src:=src) (dst:=dst) (bl:=g) (o:=0) (c:=c) (l:=l) hln (by
    intro i hi
    have hil:i<l.length:=av
    have hg:(l.map fO)[i]?=some (fO l[i]):=by simp[hil]
    rw[aQ]
    have:=uq lP hf.out hg
    grind [fO])
   simp[execOp,e1,this]) h
theorem MS[hk:Kt.nU k][hs:oL P src][hd:px P dst e][he:uy P e .u8](hw:aJ ops vs ⟨some d,.convert src dst x,ty,pos,af,g⟩=some true)(hn:aH d N=true)(hx:eo vs x=some (ao l))(h:∀a c,l.length<=c->X P b β (some (ops,rest)) k ⟨N,(d,.slice (some a) l.length c)::vs,ds⟩ (bV RB 1 (some a) l::Hs) R):X P b β (some (ops,⟨some d,.convert src dst x,ty,pos,af,g⟩::rest)) k ⟨N,vs,ds⟩ Hs R:=
 ly (ι:={p:Addr×Nat // l.length<=p.2}) (v:=λp=>.slice (some p.1.1) l.length p.1.2) (Hs':=λp=>bV RB 1 (some p.1.1) l::Hs) U hn hw (λact w FD lP=>by
  have e1:=aO FD hx
  have hr:=Lib.run_convert_string_bytes (P:=P) w src dst e ⟨l.toArray⟩ hs.out hd.out he.out
  rw[yu]at hr
  have hge:=grownCap_ge w l.length 0 e
  refine⟨⟨(⟨w.heap.size,0,none⟩,grownCap w l.length 0 e),hge⟩,Lib.bytesWorld w e ⟨l.toArray⟩,by grind [execOp,aU,aC,bN],?_⟩
  have JP:=Lib.bytesWorld_at_new w e ⟨l.toArray⟩
  have hg:w.grownBy (Lib.bytesWorld w e ⟨l.toArray⟩) none:=⟨U,U,U,by grind,λj hj _=>Lib.bytesWorld_at_old w e _ j hj⟩
  refine(Sat.freeze (MH lP hg (U2 hr) JP (ar _))).cd ?_
  rintro r o ⟨o1,o2,hd,h1,h3,hp,iz⟩
  refine⟨fL,o2,cR _,cJ _,h3,λr' nG=>?_,iz⟩
  have hgg:=hp r' nG
  refine .inr ⟨_,0,U,λi x hx=>⟨[fO x],U,⟨_,_,_,hgg,λj v hv=>?_⟩,U⟩⟩
  grind [Lib.bytesCells,fO]) (λp=>h p.1.1 p.1.2 p.2)
theorem aT1{t' n:Nat}{p:Option Addr}[ht:px P t e](hw:aJ ops vs ⟨some d,.binOp op t x y t',ty,pos,af,g⟩=some true)(hn:aH d N=true)(hx:eo vs x=some (.slice p n c))(hy:eo vs y=some (.slice none 0 0))(hv:(match op with|.eql=>some (jZ p.isNone)|.neq=>some (jZ p.isSome)|_=>none)=some v)(h:X P b β (some (ops,rest)) k ⟨N,(d,v)::vs,ds⟩ Hs R):X P b β (some (ops,⟨some d,.binOp op t x y t',ty,pos,af,g⟩::rest)) k ⟨N,vs,ds⟩ Hs R:=
 X.val U hn hw (λa w he _=>by
  have e1:=aO he hx;have e2:=aO he hy;cases op<;>simp only[fF,reduceCtorEq]at hv;all_goals
   subst hv
   obtain⟨n,hn⟩:=sJ
   cases p<;>simp[execOp,e1,e2,eqGuard,binOp,hn,fC,bC ht.out]) h
theorem Mw[hk:Kt.nU k]{sz:Nat}[ht:px P t e][xz:iI P e sz](hw:aJ ops vs ⟨some d,.buildSlice t 0 #[],ty,pos,af,g⟩=some true)(hn:aH d N=true)(h:∀bl,X P b β (some (ops,rest)) k ⟨N,(d,.slice (some ⟨bl,0,none⟩) 0 0)::vs,ds⟩ (own e sz (some ⟨bl,0,none⟩) 0 0 []::Hs) R):
 X P b β (some (ops,⟨some d,.buildSlice t 0 #[],ty,pos,af,g⟩::rest)) k ⟨N,vs,ds⟩ Hs R:=
 ly (v:=λbl=>.slice (some ⟨bl,0,none⟩) 0 0) (Hs':=λbl=>own e sz (some ⟨bl,0,none⟩) 0 0 []::Hs) U hn hw (λa w he hs=>by
  refine⟨w.heap.size,w.alloc (.cells #[] e),?_,fK (Sat.jP hs (.cells #[] e (0,0))) nH (ar _) (al _) nH nH⟩
  simp[execOp,Instr.buildSlice,bC ht.out,iR xz.out,Instr.fill,newRow]
  grind) h
end
class EqA(P:Program)(t:Nat)(cs ds:List Value)(b:outParam Bool):Prop where out:P.eqGuardType P.depth t=false/\∀w,(fC 10000 t (.agg cs.toArray) (.agg ds.toArray)).run P w=.ok b w
section
variable{P:Program}{vs:List (Nat×Value)}{rest:List Oper}
theorem bc0{t':Nat}{es:List Value}{bv:Bool}(hw:aJ ops vs ⟨some d,.binOp op t x y t',ty,pos,af,g⟩=some true)(hn:aH d N=true)(hx:eo vs x=some (.agg cs.toArray))(hy:eo vs y=some (.agg es.toArray))[he:EqA P t cs es bv](hv:(match op with|.eql=>some (jZ bv)|.neq=>some (jZ !bv)|_=>none)=some v)(h:X P b β (some (ops,rest)) k ⟨N,(d,v)::vs,ds⟩ Hs R):X P b β (some (ops,⟨some d,.binOp op t x y t',ty,pos,af,g⟩::rest)) k ⟨N,vs,ds⟩ Hs R:=
 X.val U hn hw (λa w FD _=>by
  have e1:=aO FD hx
  have e2:=aO FD hy
  have e3:=run_eqGuard_agg (P:=P) w op t x y cs.toArray es.toArray he.out.1
  have e4:=he.out.2 w
  grind [run_eql_struct,execOp,aU,aC,bN,run_neq_struct]) h
theorem Po{bl sz n:Nat}{l:List Value}(F:List az)(hl:dB l.length (n*sz)=true)(hn:Nat.ble n 1000000=true):VS (bx bl e l::F) (own e sz (some ⟨bl,0,none⟩) n n l::F):=λβ w hs=>
 have hl:=eG hl
 have hn:=aI hn
 fK (cur:=l.toArray) hs hl (ar _) (by grind [maxLen]) SO bE
theorem Ut{cc:Option (Array Oper×List Oper)}{E:Env}(bl:Nat)(sz n:Nat){l:List Value}[hf:FB Hs bl e l rs](hl:dB l.length (n*sz)=true)(hn:Nat.ble n 1000000=true)(h:X P b β cc k E (own e sz (some ⟨bl,0,none⟩) n n l::rs) R):X P b β cc k E Hs R:=X.cd hf.out (wh (Po rs hl hn) h)
theorem aa4{c:Option (Array Oper×List Oper)}{Vn:List Nat}{E:Env}(hm:mark ops.size done=mark ops.size Vn)(hl:done.length=Vn.length)(h:X P b β none (.dr ops T Fx Vn kk) E Hs R):X P b β none (.dr ops T Fx done kk) E Hs R:=by
 intro hb a w he hs
 have:=h hb a w he hs
 show ql _ _ _ _ _ _ _ _ _
 rw[hm,hl]
 exact this
theorem ab7{E:Env}{i j l:Nat}{o o' o'':List Oper}(Cl:mv ops=true)(hr:rO ops done (upto ops.size [])=[i,j,l])(hn:aH done.length ops.size=true)(ho:oneOf ops i=o)(ho':oneOf ops j=o')(ho'':oneOf ops l=o'')(h:X P b β (some (ops,o)) (.sw ops T Fx i (i::done) kk) E Hs R)(h':X P b β (some (ops,o')) (.sw ops T Fx j (j::done) kk) E Hs R)(JQ:X P b β (some (ops,o'')) (.sw ops T Fx l (l::done) kk) E Hs R):X P b β none (.dr ops T Fx done kk) E Hs R:=MY Cl hr hn U (by subst ho;subst ho';subst ho'';exact⟨h,h',JQ⟩)
end
class FJ(P:Program)(f:Nat)(us:List Value)(A:outParam (List az))(v:outParam Value):Prop where out:∀G,TR P G f us.toArray A (cT v)
section
variable{P:Program}{vs:List (Nat×Value)}{rest:List Oper}
theorem Cc[hk:Kt.nU k]{G:bZ}(hG:G.on β){f:Nat}{xs:List Operand}{us:List Value}{qW:Array TypeId}{A:List az}(hw:aJ ops vs ⟨some d,.call ⟨.value (.func f),xs.toArray,qW⟩,ty,pos,af,g⟩=some true)(hn:aH d N=true)(hx:nk vs xs=some us)[hT:FJ P f us A v][rH:CF P f][hA:EK Hs A](h:X P b β (some (ops,rest)) k ⟨N,(d,v)::vs,ds⟩ Hs R):
 X P b β (some (ops,⟨some d,.call ⟨.value (.func f),xs.toArray,qW⟩,ty,pos,af,g⟩::rest)) k ⟨N,vs,ds⟩ Hs R:=
 vn hG (hT.out G) hw hn hx h
theorem aM{N:Nat}{vs:List (Nat×Value)}{ds:List Deferred}{c:Option (Array Oper×List Oper)}(d:Nat){t:Bool}(u:Bool)(hd:lk vs d=some (.bool t))(h:t=u)
 (h1:X P b β c k ⟨N,(d,.bool u)::vs,ds⟩ Hs R):X P b β c k ⟨N,vs,ds⟩ Hs R:=by
 subst h
 cases t
 ·exact HH d hd (λh=>by cases h) (λ_=>h1)
 ·exact HH d hd (λ_=>h1) (λh=>by cases h)
end
section
variable{P:Program}{k:List Item}{vs:List (Nat×Value)}
theorem UZ{F:List az}{i j l d1 d2 d3 t1 t2 t3 y1 y2 y3:Nat}{p1 p2 p3:String}{a1 a2 a3:Array Edge}{z1 z2 z3:List Value}[Gn:TZ P t1 z1][YU:TZ P t2 z2][hz3:TZ P t3 z3][hE:ES Hs Fx F](Cl:mv ops=true)(hr:rO ops done (upto ops.size [])=[i,j,l])(ri:rO ops (i::done) (upto ops.size [])=[j,l])(rj:rO ops (j::done) (upto ops.size [])=[i,l])(rl:rO ops (l::done) (upto ops.size [])=[i,j])(rij:rO ops (j::i::done) (upto ops.size [])=[l])(ril:rO ops (l::i::done) (upto ops.size [])=[j])(rji:rO ops (i::j::done) (upto ops.size [])=[l])(rjl:rO ops (l::j::done) (upto ops.size [])=[i])(rli:rO ops (i::l::done) (upto ops.size [])=[j])(rlj:rO ops (j::l::done) (upto ops.size [])=[i])(hn:aH done.length ops.size=true)(C9:aH (done.length+1) ops.size=true)(tH:aH (done.length+2) ops.size=true)(oi:oneOf ops i=[⟨some d1,.alloc t1,y1,p1,a1,none⟩])(oj:oneOf ops j=[⟨some d2,.alloc t2,y2,p2,a2,none⟩])(ol:oneOf ops l=[⟨some d3,.alloc t3,y3,p3,a3,none⟩])(h1:aH d1 N=true)(h2:aH d2 N=true)(h3:aH d3 N=true)(e12:dB d1 d2=false)(e13:dB d1 d3=false)(e23:dB d2 d3=false)(m1:mark ops.size (j::l::i::done)=mark ops.size (l::j::i::done))(m2:mark ops.size (l::i::j::done)=mark ops.size (l::j::i::done))(m3:mark ops.size (i::l::j::done)=mark ops.size (l::j::i::done))(m4:mark ops.size (j::i::l::done)=mark ops.size (l::j::i::done))(m5:mark ops.size (i::j::l::done)=mark ops.size (l::j::i::done))(h:∀b1 b2 b3,X P b β none (.dr ops T Fx (l::j::i::done) k) ⟨N,(d3,.pointer (some ⟨b3,0,none⟩))::(d2,.pointer (some ⟨b2,0,none⟩))::(d1,.pointer (some ⟨b1,0,none⟩))::vs,ds⟩ (bx b3 t3 z3::bx b2 t2 z2::bx b1 t1 z1::Hs) R):
 X P b β none (.dr ops T Fx done k) ⟨N,vs,ds⟩ Hs R:=by
 have es:∀q:List az,aN (q++Hs) (Fx++(q++F)):=λq=>(aN.app q hE.out).trans (di (by
  grind [List.Perm.append_right,cG]))
 have wK:∀{E:Env} {q:List az} {x:Nat} {dn:List Nat},X P b β none (.dr ops T Fx dn k) E (q++Hs) R->X P b β none (.sw ops T Fx x dn k) E (q++Hs) R:=λ{E q x dn} hx=>X.sw (F:=q++F) (hE:=⟨es q⟩) hx
 have fin:∀{v1 v2 v3:Nat×Value} {zH:List (Nat×Value)} {Hs':List az} {dn:List Nat} (b1 b2 b3:Nat),mark ops.size dn=mark ops.size (l::j::i::done)->dn.length=(l::j::i::done).length->
  (∀t,lk ((d3,.pointer (some ⟨b3,0,none⟩))::(d2,.pointer (some ⟨b2,0,none⟩))::(d1,.pointer (some ⟨b1,0,none⟩))::vs) t=lk zH t)->Hs'.Perm (bx b3 t3 z3::bx b2 t2 z2::bx b1 t1 z1::Hs)->
  X P b β none (.dr ops T Fx dn k) ⟨N,zH,ds⟩ Hs' R:=by
  intro v1 v2 v3 zH Hs' dn b1 b2 b3 hm hl hv hH
  exact aa4 (c:=none) hm hl (X.less (h b1 b2 b3) (λt v e=>by grind) (di hH))
 have Bl:∀t,dB d1 t=true->dB d2 t=false:=aV9
 have FE:∀t,dB d1 t=true->dB d3 t=false:=aV9
 have b23:∀t,dB d2 t=true->dB d3 t=false:=aV9
 have lk3:∀(x y z:Value) (t:Nat),lk ((d3,z)::(d2,y)::(d1,x)::vs) t=if dB d1 t then some x else if dB d2 t then some y else if dB d3 t then some z else lk vs t:=by
  grind [lk]
 refine ab7 Cl hr hn oi oj ol ?_ ?_ ?_
 ·refine jC U h1 λb1=>?_;refine X.go 1 U U (wK (q:=[_]) (dA Cl ri av oj ol ?_ ?_))
  ·refine jC U h2 λb2=>X.go 1 U U (wK (q:=[_,_]) (mr Cl rij av ol ?_));exact jC U h3 λb3=>X.go 1 U U (wK (q:=[_,_,_]) (h b1 b2 b3))
  ·refine jC U h3 λb3=>X.go 1 U U (wK (q:=[_,_]) (mr Cl ril av oj ?_))
   refine jC U h2 λb2=>X.go 1 U U (wK (q:=[_,_,_]) (fin (v1:=(0,undef)) (v2:=(0,undef)) (v3:=(0,undef)) b1 b2 b3 m1 U ?_ ?_))
   ·grind [lk]
   ·exact eu _ _ _
 ·refine jC U h2 λb2=>?_;refine X.go 1 U U (wK (q:=[_]) (dA Cl rj av oi ol ?_ ?_))
  ·refine jC U h1 λb1=>X.go 1 U U (wK (q:=[_,_]) (mr Cl rji av ol ?_))
   refine jC U h3 λb3=>X.go 1 U U (wK (q:=[_,_,_]) (fin (v1:=(0,undef)) (v2:=(0,undef)) (v3:=(0,undef)) b1 b2 b3 m2 U ?_ ?_))
   ·grind [lk]
   ·exact fS _ (eu _ _ _)
  ·refine jC U h3 λb3=>X.go 1 U U (wK (q:=[_,_]) (mr Cl rjl av oi ?_))
   refine jC U h1 λb1=>X.go 1 U U (wK (q:=[_,_,_]) (fin (v1:=(0,undef)) (v2:=(0,undef)) (v3:=(0,undef)) b1 b2 b3 m3 U ?_ ?_))
   ·grind [lk]
   ·exact aQ6
 ·refine jC U h3 λb3=>?_;refine X.go 1 U U (wK (q:=[_]) (dA Cl rl av oi oj ?_ ?_))
  ·refine jC U h1 λb1=>X.go 1 U U (wK (q:=[_,_]) (mr Cl rli av oj ?_))
   refine jC U h2 λb2=>X.go 1 U U (wK (q:=[_,_,_]) (fin (v1:=(0,undef)) (v2:=(0,undef)) (v3:=(0,undef)) b1 b2 b3 m4 U ?_ ?_))
   ·grind [lk]
   ·exact(fS _ (eu _ _ _)).trans (eu _ _ _)
  ·refine jC U h2 λb2=>X.go 1 U U (wK (q:=[_,_]) (mr Cl rlj av oi ?_));refine jC U h1 λb1=>X.go 1 U U (wK (q:=[_,_,_]) (fin (v1:=(0,undef)) (v2:=(0,undef)) (v3:=(0,undef)) b1 b2 b3 m5 U ?_ ?_))
   ·intro t;rw[lk3];simp only[lk];cases q1:dB d1 t<;>cases q2:dB d2 t<;>cases q3:dB d3 t<;>simp;all_goals first|(have h9:=Bl t q1;rw[h9]at q2;exact absurd q2 de)|(have h9:=FE t q1;rw[h9]at q3;exact absurd q3 de)|(have h9:=b23 t q2;rw[h9]at q3;exact absurd q3 de)
   ·exact(eu _ _ _).trans ((fS _ (eu _ _ _)).trans (eu _ _ _))
end
@[reducible] def au(b:Nat):Value:=.pointer (some ⟨b,0,none⟩)
theorem aN.shut{κ α:Type}(pred:κ->α->az)(key:κ)(x:α){f:ι->List az}(hd:pred key x=ex f)(i:ι){Hs:List az}[he:ES Hs (f i) rest]:aN Hs (pred key x::rest):=
 he.out.trans (hd▸gU i rest)
theorem nO{κ α:Type}(pred:κ->α->az)(key:κ)(x:α){f:ι->List az}(hd:pred key x=ex f)(i:ι){Hs:List az}[he:ES Hs (f i) rest]:aN Hs [pred key x]:=
 (aN.shut pred key x hd i).trans (fN [_] _)
end
section
variable{F rs A B1 B2:List az}{a:Option Addr}{l f n c D t e f0 PM:Nat}{r:Loop}{cap us cs:List Value}{ps:List Nat}{xs:List Operand}{qW:Array TypeId}{p:Prop}{P:Program}{bD4:Code}(L:List az)(bl:Nat)
section
variable{P:Program}
theorem UQ{α:Type}{Re:Rp α}[hf:FB Hs bl t cs rs](ys:List (Option Addr×Nat×List α))(sD:cs=ys.map λy=>.slice y.1 y.2.2.length y.2.1)(hc:∀y∈ys,y.2.2.length<=y.2.1)(hr:∀y∈ys,∃F,aN rs (bV Re PM y.1 y.2.2::F))(h:X P b β cc k E (bV (RSl Re PM) 1 (some ⟨bl,0,none⟩) (ys.map (·.2.2))::rs) R):X P b β cc k E Hs R:=by
 refine X.cd hf.out (wh ?_ h)
 intro β w hs
 have h1:=Sat.freeze hs
 refine h1.cd ?_
 rintro r o ⟨o1,o2,hd,h2,h3,hp,iz⟩
 refine⟨fL,o2,cR _,cJ _,h3,λr' nG=>?_,iz⟩
 have hg:=hp r' nG
 refine .inr ⟨bl,0,U,λi x hx=>?_⟩
 rw[dO]at hx
 cases hy:ys[i]? with
 |none=>grind
 |some y=>
  rw[hy]at hx
  have hx':y.2.2=x:=bE
  subst hx'
  have iq:y∈ys:=List.mem_of_getElem? hy
  refine⟨[.slice y.1 y.2.2.length y.2.1],U,⟨cs.toArray,t,(0,0),hg,λj v hv=>?_⟩,y.1,y.2.1,U,hc y iq,?_⟩
  ·grind
  ·obtain⟨F,hF⟩:=hr y iq;obtain⟨_,_,_,_,_,hq,_⟩:=hF r o2 iz;exact hq r' nG
theorem HP{α:Type}{Re:Rp α}{x:List α}[hf:FB Hs bl t [.slice a n c] rs][h1:zI rs a Re PM x](hn:x.length=n)(hc:n<=c)(h:X P b β cc k E (bV (RSl Re PM) 1 (some ⟨bl,0,none⟩) [x]::rs) R):X P b β cc k E Hs R:=
 UQ bl [(a,c,x)] Rb bB (by simp;exact h1.out) h
theorem aT2{n' c':Nat}{a':Option Addr}{α:Type}{Re:Rp α}{x x':List α}[hf:FB Hs bl t [.slice a n c,.slice a' n' c'] rs][h1:zI rs a Re PM x][h2:zI rs a' Re PM x'](hn:x.length=n)(hc:n<=c)(ZW:x'.length=n')(hc':n'<=c')(h:X P b β cc k E (bV (RSl Re PM) 1 (some ⟨bl,0,none⟩) [x,x']::rs) R):X P b β cc k E Hs R:=
 UQ bl [(a,c,x),(a',c',x')] (by simp[hn,ZW]) bB (by simp;exact⟨h1.out,h2.out⟩) h
end
section
variable{P:Program}
theorem dE(a:Option Addr){sz:Nat}[ho:FO Hs a e sz n c cs rs]{α:Type}(bo:α->List Value)(xs:List α)(he:cs=xs.flatMap bo)(hn:n=xs.length)(hs:∀x,(bo x).length=sz)(h:n<=c->X P b β cc k E (bV (bp bo) sz a xs::rs) R):X P b β cc k E Hs R:=by
 refine jo λw lP=>?_
 have h1:=lP.cd ho.out
 have hc:n<=c:=by
  rcases dx h1 with⟨_,h2,h3,_⟩|⟨_,_,_,_,h6,_⟩;all_goals omega
 subst he
 exact⟨_,VS.freeze rs hn hs β w h1,h hc⟩
theorem lD(l:List UInt8):l.map fO=l.flatMap λx=>[fO x]:=by
 induction l<;>grind
theorem iE(a:Option Addr){l:List UInt8}[ho:FO Hs a e 1 n c (l.map fO) rs](hn:n=l.length)(h:n<=c->X P b β cc k E (bV RB 1 a l::rs) R):X P b β cc k E Hs R:=
 dE a (λx=>[fO x]) l (lD l) hn (λ_=>rfl) h
end
section
variable{P:Program}{vs:List (Nat×Value)}{rest:List Oper}
theorem iw[hk:Kt.nU k]{m c2:Nat}{x y:Operand}{a2:Option Addr}{zs ys:List UInt8}[ht:px P t e][hz:iI P e 1][T':yl P e 1][M7:TZ P e [.int .u8 0]](hw:aJ ops vs ⟨some d,.call ⟨.builtin .append,#[x,y],#[t,t]⟩,ty,pos,af,g⟩=some true)(hn:aH d N=true)(hx:eo vs x=some (.slice a n c))(hy:eo vs y=some (.slice a2 m c2))[ho:FO Hs a e 1 n c (zs.map fO) rs][hs:zI rs a2 RB 1 ys](hm:ys.length=m)(hb:zs.length+ys.length<=140737488355328)(h:∀a' c',X P b β (some (ops,rest)) k ⟨N,(d,.slice a' (zs++ys).length c')::vs,ds⟩ (own e 1 a' (zs++ys).length c' ((zs++ys).map fO)::rs) R):
 X P b β (some (ops,⟨some d,.call ⟨.builtin .append,#[x,y],#[t,t]⟩,ty,pos,af,g⟩::rest)) k ⟨N,vs,ds⟩ Hs R:=by
 refine jo λw lP=>?_
 have h1:=lP.cd ho.out
 have hl:n=zs.length:=aL6
 refine⟨_,lP,?_⟩
 subst hl
 refine MC (bo:=λx=>[fO x]) hw hn hx hy hm U (λ_=>rfl) (λ_=>rfl) U av λa' c'=>?_
 have:=h a' c'
 grind [lD]
theorem Cg[hk:Kt.nU k]{u:Nat}{x y:Operand}{zs l:List UInt8}[ht:px P t e][hu:oL P u][hz:iI P e 1][T':yl P e 1][M7:TZ P e [.int .u8 0]](hw:aJ ops vs ⟨some d,.call ⟨.builtin .append,#[x,y],#[t,u]⟩,ty,pos,af,g⟩=some true)(hn:aH d N=true)(hx:eo vs x=some (.slice a n c))(hy:eo vs y=some (ao l))[ho:FO Hs a e 1 n c (zs.map fO) rs](hb:zs.length+l.length<=140737488355328)(h:∀a' c',X P b β (some (ops,rest)) k ⟨N,(d,.slice a' (zs++l).length c')::vs,ds⟩ (own e 1 a' (zs++l).length c' ((zs++l).map fO)::rs) R):
 X P b β (some (ops,⟨some d,.call ⟨.builtin .append,#[x,y],#[t,u]⟩,ty,pos,af,g⟩::rest)) k ⟨N,vs,ds⟩ Hs R:=by
 refine jo λw lP=>?_
 have h1:=lP.cd ho.out
 have hl:n=zs.length:=aL6
 refine⟨_,lP,?_⟩
 subst hl
 refine aT8 hw hn hx hy hb λa' c'=>?_
 have:=h a' c'
 grind
end
theorem sK{β:bS}{Hs:List az}{w:World}{xs:List UInt8}(hs:Sat β Hs w)[hf:zI Hs a RB 1 xs](hn:xs.length=n):
 (Extern.Bytes.bytesOf (.slice a n c)).run P w=.ok ⟨xs.toArray⟩ w:=by
 obtain⟨rr,hr⟩:=hf.out
 have h1:vW RB 1 a xs (hp w):=Sat.ro (hs.cd hr)
 by_cases me:xs=[]
 ·subst me;simp at hn;subst hn;cases a with
  |none=>simp[Extern.Bytes.bytesOf];rfl
  |some a=>simp[Extern.Bytes.bytesOf,Extern.Bytes.loadBytes];rfl
 ·obtain⟨b,o,rfl,h2⟩:=zZ (sz:=1) h1 me;have hl:=Lib.run_loadBytesX (P:=P) (w:=w) (xs.map λx=>(x.toNat:Int)) ⟨b,o,none⟩ .empty (λj x hj=>by
   have hjl:j<xs.length:=by simpa using(List.getElem?_eq_some_iff.1 hj).1
   rw[addr_add,h2 j hjl,List.getD_eq_getElem?_getD,hj];rfl)
  rw[Bj,aA,hn]at hl;simp only[Extern.Bytes.bytesOf,hl];simp_all
theorem ad7{β:bS}{Hs:List az}{w:World}{xs:List UInt8}(cv:UInt8)(hs:Sat β Hs w)[hf:zI Hs a RB 1 xs](hn:xs.length=n):
 (Extern.BytealgCount.count #[.slice a n c,.int .u8 cv.toNat]).run P w=.ok (.int .i64 (bP xs cv)) w:=by
 have h1:=sK (P:=P) (a:=a) (c:=c) hs hn
 have h2:=Lib.run_countString (P:=P) ⟨xs.toArray⟩ cv.toNat w
 change fo P (do
  let b<-Extern.Bytes.bytesOf (.slice a n c)
  let c'<-Extern.Bytes.asByte (.int .u8 cv.toNat)
  pure (goInt (b.foldl (λn x=>if x==c' then n+1 else n) (0:Nat)))) w=_
 change fo P (do
  let b<-Extern.Bytes.bytesOf (.string ⟨xs.toArray⟩)
  let c'<-Extern.Bytes.asByte (.int .u8 cv.toNat)
  pure (goInt (b.foldl (λn x=>if x==c' then n+1 else n) (0:Nat)))) w=_ at h2
 rw[aU,h1,aC]
 rw[aU,show(Extern.Bytes.bytesOf (.string ⟨xs.toArray⟩)).run P w=.ok ⟨xs.toArray⟩ w from rfl,aC]at h2
 rw[h2]
 simp
def cnd(p:Prop)(q:az):az:=⟨λr o=>p->q.h r o,λhr ho h hp=>q.mono hr ho (h hp)⟩
theorem UF(p:Prop)(q:az)(F:List az):aN (q::F) (cnd p q::F):=λ_ _ ⟨o1,o2,hd,h1,h2,hq,hs⟩=>⟨o1,o2,hd,h1,h2,λ_=>hq,hs⟩
theorem UM(h:¬p)(q:az)(F:List az):aN F (cnd p q::F):=λ_ o hs=>⟨fL,o,cR _,cJ _,.refl _,λhp=>absurd hp h,hs⟩
theorem UO(h:p)(q:az)(F:List az):aN (cnd p q::F) (q::F):=λ_ _ ⟨o1,o2,hd,h1,h2,hq,hs⟩=>⟨o1,o2,hd,h1,h2,hq h,hs⟩
class FCn(Hs:List az)(p:Prop)(q:outParam az)(rest:outParam (List az)):Prop where out:aN Hs (cnd p q::rest)
instance FCn.here(p:Prop)(q:az)(Hs:List az):FCn (cnd p q::Hs) p q Hs:=⟨aN.refl _⟩
instance(priority:=low) FCn.there(x:az)(Hs:List az)(p:Prop)(q:az)(rest:List az)[h:FCn Hs p q rest]:FCn (x::Hs) p q (x::rest):=
 ⟨(aN.cons x h.out).trans (cQ _ _ _)⟩
section
variable{P:Program}
theorem Cf(m:Nat)(zs:List UInt8){l:List Value}[hf:FB Hs bl e l rs](hz:l=zs.map fO)(hl:zs.length=m)(hn:Nat.ble m 1000000=true)(h:X P b β cc k E (own e 1 (some ⟨bl,0,none⟩) m m (zs.map fO)::rs) R):X P b β cc k E Hs R:=by
 subst hz
 exact X.cd hf.out (wh (Po (sz:=1) rs SO hn) h)
theorem Ux(hp:p){q:az}{rest:List az}[hf:FCn Hs p q rest](h:X P b β cc k E (q::rest) R):X P b β cc k E Hs R:=
 X.cd (hf.out.trans (UO hp q rest)) h
end
def YT(P:Program)(G:bZ)(l:Nat)(args:Array Value)(A:List az)(R:Ending->List az->Prop):Prop:=
 ∀(β:bS) (w:World),G.on β->Sat β A w->∃f tmps bD4 bd,(Instr.yield l args).run P w=.ok (.round l f tmps bD4 bd) w/\∀ro,RoundIn (Fw ro) 0 P l f tmps bD4 bd w (ux β R)
def YQ(B1 B2:List az)(v:Value)(B:List az):Prop:=(v=.bool true/\B=B1)\/(v=.bool false/\B=B2)
def IT(P:Program)(G:bZ)(f:FuncId)(cap:List Value)(A:List az){α:Type}(bo:α->List Value)(xs:List α):Prop:=
 ∀(l:Nat) (I:List α->List az) (J:List az),
  (∀pre x post,xs=pre++x::post->YT P G l (bo x).toArray (I pre) (cb (YQ (I (pre++[x])) J)))->
  TR P G f (.func (.yield l) #[] #[]::cap).toArray (A++I []) (cb λ_ B=>B=A++I xs\/B=A++J)
def yx:List Nat->List Value->List (Nat×Value)->List (Nat×Value)
 |p::ps,v::us,vs=>yx ps us ((p,v)::vs)
 |_,_,vs=>vs
def XR(P:Program)(b:Frame)(β:bS)(E:Env)(Hs:List az)(R:Ending->List az->Prop):Prop:=
 b.kind=.normal->∀a w,fU E a->Sat β Hs w->Vm P b .returning a w (ux β R)
section
variable{P:Program}{vs:List (Nat×Value)}{rest:List Oper}
theorem Pm{k:List Item}{G:bZ}(hG:G.on β){Q:Value->List az->Prop}(hT:YT P G l us.toArray A (cb Q))(hw:aJ ops vs ⟨some d,.call ⟨.value (.tmp t),xs.toArray,qW⟩,ty,pos,af,g⟩=some true)(hn:aH d N=true)(ht:lk vs t=some (.func (.yield l) #[] #[]))(hx:nk vs xs=some us)(hA:aN Hs (A++F))(h:∀v B,Q v B->X P b β (some (ops,rest)) (.it k) ⟨N,(d,v)::vs,ds⟩ (B++F) R):
 X P b β (some (ops,⟨some d,.call ⟨.value (.tmp t),xs.toArray,qW⟩,ty,pos,af,g⟩::rest)) (.it k) ⟨N,vs,ds⟩ Hs R:=by
 intro hb a w he hs
 obtain⟨β',hβ,vV,nL⟩:=jH (hs.cd hA)
 obtain⟨f,tmps,bD4,bd,hy,hr⟩:=hT β' w (G.mono hβ hG) vV
 have h1:=kO he hx
 have h2:xs.toArray.map a.eval=us.toArray:=bE
 have h3:a.eval (.tmp t)=.func (.yield l) #[] #[]:=aO (x:=.tmp t) he ht
 have hex:(execOp a.eval ⟨some d,.call ⟨.value (.tmp t),xs.toArray,qW⟩,ty,pos,af,g⟩).run P w=.ok (.round l f tmps bD4 bd) w:=by
  grind [execOp,resolve,Deferred.ofValue,invoke]
 refine aT3 (kD (E:=⟨N,vs,ds⟩) he hw) hex (hr b.roundOf) ?_ ?_ ?_
 ·exact bt5
 ·rintro ch w' ⟨B,hB,zU⟩;exact hB
 ·rintro w' ⟨B,hB,zU⟩;exact hB
theorem oJ{w:World}{x:Obj}(h:Sat β (Sl.pt l x::F) w)(y:Obj):Sat β (Sl.pt l y::F) (w.putObj l y):=Sat.setObj h
theorem bc2{k:List Item}(lC:b.roundOf=some l)(hE:aN Hs (pt l (.loop r)::F))(hr:r.state=.ready)(h:X P b β none (.it k) E (pt l (.loop {r with state:=.busy})::F) R):X P b β none (.it (.beginRound::k)) E Hs R:=by
 intro hb a w he hs
 have h1:=hs.cd hE
 exact .step (λ_=>stepR_beginRound lC (run_beginRound (dS h1) hr)) (h hb a _ he (oJ h1 _))
theorem aR4(lC:b.roundOf=some l)(hE:aN Hs (pt l (.loop r)::F))(h:∃B,R (.returned (.bool true)) B/\aN (pt l (.loop {r with state:=.ready,pending:=none})::F) B):X P b β none (.it []) E Hs R:=by
 intro hb a w he hs cs sD
 have h1:=hs.cd hE
 obtain⟨B,hB,hEB⟩:=h
 cases cs with
 |nil=>grind
 |cons c cs=>
  refine⟨.returned (.bool true),_,lone (c.finish (.bool true)) cs _,⟨B,hB,(oJ h1 _).cd hEB⟩,.one (stepR_round_end lC hb (run_endRound none (dS h1))),?_⟩
  grind [CY]
theorem aU7{k:List Item}(lC:b.roundOf=some l)(hE:aN Hs (pt l (.loop r)::F))(h:∃B,R (.returned (.bool false)) B/\aN (pt l (.loop {r with state:=.done,pending:=some .ret})::F) B):X P b β none (.it (.code .ret::k)) E Hs R:=by
 intro hb a w he hs cs sD
 have h1:=hs.cd hE
 obtain⟨B,hB,hEB⟩:=h
 cases cs with
 |nil=>grind
 |cons c cs=>
  refine⟨.returned (.bool false),_,lone (c.finish (.bool false)) cs _,⟨B,hB,(oJ h1 _).cd hEB⟩,.one (stepR_round_ret lC hb (run_endRound (some .ret) (dS h1))),?_⟩
  grind [CY]
theorem CU:∀{ps:List Nat} {us:List Value} {n:Nat} {vs:List (Nat×Value)} {t:Array Value} {df:List Deferred},(∀p∈ps,aH p n=true)->ps.length=us.length->fU ⟨n,vs,df⟩ ⟨t,df⟩->
 fU ⟨n,Sl.yx ps us vs,df⟩ ⟨(ps.zip us).foldl (λt (p,v)=>t.setIfInBounds p v) t,df⟩
 |[],us,n,vs,t,df,_,_,h=>by simpa[Sl.yx]using h
 |p::ps,[],n,vs,t,df,_,hl,h=>by simp at hl
 |p::ps,v::us,n,vs,t,df,hp,hl,h=>by
  have h1:=fU.put (E:=⟨n,vs,df⟩) h (hp p nH) v;exact CU (ps:=ps) (us:=us) (λq hq=>hp q (by simp[hq])) (by simpa using hl) h1
theorem YT.of{G:bZ}{vs:List (Nat×Value)}(hA:∃F,aN A (pt l (.loop r)::F))(hps:r.params=ps.toArray)(hl:ps.length=us.length)(hp:∀p∈ps,aH p n=true)(hE:fU ⟨n,vs,[]⟩ ⟨r.tmps,[]⟩)(h:∀b β,b.fn=r.fn->b.roundOf=some l->G.on β->X P b β none (.it [.code r.assign,.beginRound,.code r.body]) ⟨n,yx ps us vs,[]⟩ A R):YT P G l us.toArray A R:=by
 intro β w hG hs
 obtain⟨F,hF⟩:=hA
 have h1:=dS (hs.cd hF)
 have hy:=run_yield (P:=P) (args:=us.toArray) h1 (by rw[hps];simp[hl])
 refine⟨_,_,_,_,hy,λro=>⟨trivial,λc cs _=>?_⟩⟩
 have h2:=h {(default:Frame)with fn:=r.fn,kind:=.normal,roundOf:=some l} β U U hG U _ w (CU hp hl hE) hs (c::cs) nH
 obtain⟨e,w',m',hR,hc,dW⟩:=h2
 unfold CY at dW
 obtain⟨c',JA,heq,rfl⟩:=dW
 cases heq
 refine⟨e,w',hR,?_⟩
 have gY:Frame.round l r.fn ((r.params.zip us.toArray).foldl (λtmps (t,a)=>tmps.setIfInBounds t a) r.tmps) r.assign r.body .normal=
  ({(default:Frame)with fn:=r.fn,kind:=.normal,roundOf:=some l}:Frame).atR ⟨(ps.zip us).foldl (λt (p,v)=>t.setIfInBounds p v) r.tmps,[]⟩ [.code r.assign,.beginRound,.code r.body]:=by
  have hz:(r.params.zip us.toArray).foldl (λtmps (x:Nat×Value)=>tmps.setIfInBounds x.1 x.2) r.tmps=(ps.zip us).foldl (λt (x:Nat×Value)=>t.setIfInBounds x.1 x.2) r.tmps:=by
   rw[hps];simp[List.zip_toArray]
  simp only[Frame.round,Frame.atR,hz]
 rw[gY]
 cases e with
 |outgrown=>exact hc
 |returned v=>exact(stepsIn_wide (P:=P)).2 hc
 |panicked ch=>exact(stepsIn_wide (P:=P)).2 hc
end
section
variable{P:Program}{vs:List (Nat×Value)}
theorem XR.mark{rs:List ResultVar}(l9:mi b f)[hf:FR P f rs]{l:List Value}(hE:aN Hs (pt D (.deferred (some []))::F))(hl:jK P ⟨N,vs,[⟨.collected D,#[]⟩]⟩ F rs l)(h:∃C,R (.returned (lx l)) C/\aN F C):XR P b β ⟨N,vs,[⟨.collected D,#[]⟩]⟩ Hs R:=by
 intro hb a w he hs todo cs _
 obtain⟨fn,h1,rfl⟩:=hf.out
 obtain⟨C,h2,h3⟩:=h
 have h4:=hs.cd hE
 have iz:=step_collected (P:=P) (fr:={b.atR a todo with mode:=.returning}) (cs:=cs) (w:=w) (d:=⟨.collected D,#[]⟩) (ds:=[]) nH he.2.1 U (run_takeDeferred (dS h4))
 have h5:=(oJ h4 (.deferred none)).cd (aN.drop _ _)
 refine⟨.returned (lx l),_,_,⟨C,h2,h5.cd h3⟩,.one iz,.mk l9.ro U ⟨U,U,hb,fn,?_,?_⟩⟩
 ·show P.funcs[b.fn]?=some fn;rw[l9.fn];exact h1
 ·exact mO (hl β a _ he h5)
theorem aS0{k:List Item}{E:Env}(l9:mi b f)(h:XR P b β E Hs R):X P b β none (.it (.code .ret::k)) E Hs R:=by
 intro hb a w he hs cs sD;obtain⟨e,w',m',hR,hc,dW⟩:=h hb a w he hs (.code .ret::k) cs sD;exact⟨e,w',m',hR,.of_steps (.one (stepR_ret l9.ro)) hc,dW⟩
theorem aa3{E:Env}(l9:mi b f)(h:XR P b β E Hs R):X P b β none (.it []) E Hs R:=by
 intro hb a w he hs cs sD;obtain⟨e,w',m',hR,hc,dW⟩:=h hb a w he hs [] cs sD;exact⟨e,w',m',hR,.of_steps (.one (stepR_end l9.ro)) hc,dW⟩
theorem aT9{k:List Item}{rs:List ResultVar}(l9:mi b f)[hf:FR P f rs]{l:List Value}(hE:aN Hs (pt D (.deferred (some []))::F))(hl:jK P ⟨N,vs,[⟨.collected D,#[]⟩]⟩ F rs l)(h:∃C,R (.returned (lx l)) C/\aN F C):X P b β none (.it (.code .ret::k)) ⟨N,vs,[⟨.collected D,#[]⟩]⟩ Hs R:=aS0 l9 (XR.mark l9 hE hl h)
theorem aS1{rs:List ResultVar}(l9:mi b f)[hf:FR P f rs]{l:List Value}(hE:aN Hs (pt D (.deferred (some []))::F))(hl:jK P ⟨N,vs,[⟨.collected D,#[]⟩]⟩ F rs l)(h:∃C,R (.returned (lx l)) C/\aN F C):X P b β none (.it []) ⟨N,vs,[⟨.collected D,#[]⟩]⟩ Hs R:=aa3 l9 (XR.mark l9 hE hl h)
def QF(P:Program)(b:Frame)(β:bS)(k:List Item)(R:Ending->List az->Prop):Exit->Act->World->Prop
 |.normal,a,w=>vU P b k a w (ux β R)
 |.ret,a,w=>Vm P b .returning a w (ux β R)
 |_,_,_=>False
theorem ui{k:List Item}{c:Code}{a:Act}{w:World}(lC:b.roundOf=none)(h:c.wpIn (Fw b.roundOf) 0 P (QF P b β k R) a w):vU P b (.code c::k) a w (ux β R):=by
 intro cs sD;obtain⟨e,a',w',hq,ac1⟩:=h b k cs U trivial (Fw.room _ _);cases e with
 |normal=>
  obtain⟨e,uv,fr,r,c,rest⟩:=hq cs sD;exact aN8
 |ret=>
  obtain⟨todo,hs⟩:=ac1.1 lC;obtain⟨e,uv,fr,r,c,rest⟩:=hq todo cs sD;exact bp8
 |exit i=>exact hq.elim
 |goto i=>exact hq.elim
 |panic ch=>exact hq.elim
 |outgrown=>exact hq.elim
theorem Jw{G:bZ}(hG:G.on β)(l9:mi b f0)[rH:CF P f]{g:Operand}{bd:Code}{k:List Item}{α:Type}{bo:α->List Value}{xs:List α}(hit:IT P G f cap A bo xs)(hg:eo vs g=some (.func (.func f) #[] cap.toArray))(I:List α->List az)(J:List az)(hA:aN Hs (A++I []++F))(hl:∀x,ps.length=(bo x).length)(hp:∀p∈ps,aH p N=true)(body:∀(b':Frame) (β':bS) (l:Nat) (r:Loop) (pre:List α) (x:α) (post:List α),xs=pre++x::post->b'.roundOf=some l->G.on β'->r.state=.ready->
  X P b' β' none (.it [.code bD4,.beginRound,.code bd]) ⟨N,yx ps (bo x) vs,[]⟩ (pt l (.loop r)::I pre) (cb (YQ (pt l (.loop {r with state:=.ready,pending:=none})::I (pre++[x])) (pt l (.loop {r with state:=.done,pending:=some .ret})::J))))(done:∀D,X P b β none (.it k) ⟨N,vs,⟨.collected D,#[]⟩::ds⟩ (pt D (.deferred (some []))::(A++I xs++F)) R)(stop:∀D,XR P b β ⟨N,vs,⟨.collected D,#[]⟩::ds⟩ (pt D (.deferred (some []))::(A++J++F)) R):
 X P b β none (.it (.code (.rangeFunc g ps.toArray bD4 bd)::k)) ⟨N,vs,ds⟩ Hs R:=by
 intro hb a w he hs
 refine ui l9.ro (wpIn_rangeFunc λfn _=>?_)
 obtain⟨rec,qL⟩:∃rec:Loop,rec={state:=.ready,pending:=none,fn:=fn,tmps:=a.tmps,params:=ps.toArray,assign:=bD4,body:=bd,defers:=w.heap.size}:=⟨_,U⟩
 have Bi:Sat β (pt (w.alloc (.deferred (some []))).heap.size (.loop rec)::pt w.heap.size (.deferred (some []))::Hs) ((w.alloc (.deferred (some []))).alloc (.loop rec)):=Sat.jP (Sat.jP hs _) _
 rw[World.size_alloc]at Bi
 have eg:a.eval g=.func (.func f) #[] cap.toArray:=by grind [aO]
 have hen:=run_enterLoop_outer (P:=P) (w:=w) fn a.tmps ps.toArray bD4 bd
 rw[<-qL]at hen
 refine⟨w.heap.size+1,[{target:=.collected w.heap.size,args:=#[]}],(w.alloc (.deferred (some []))).alloc (.loop rec),⟨.fn (.func f) cap.toArray,#[.func (.yield (w.heap.size+1)) #[] #[]]⟩,(w.alloc (.deferred (some []))).alloc (.loop rec),f,(.func (.yield (w.heap.size+1)) #[] #[]::cap).toArray,(w.alloc (.deferred (some []))).alloc (.loop rec),?_,?_,?_,?_,?_,?_⟩
 ·exact bg4
 ·grind [resolve,Deferred.ofValue,bN,Act.eval]
 ·grind
 ·have h9:=rH.out (.func (.yield (w.heap.size+1)) #[] #[]::cap).toArray ((w.alloc (.deferred (some []))).alloc (.loop rec))
  grind [invoke]
 ·grind
 ·have hE1:aN (pt (w.heap.size+1) (.loop rec)::pt w.heap.size (.deferred (some []))::Hs) ((A++(pt (w.heap.size+1) (.loop rec)::I []))++(pt w.heap.size (.deferred (some []))::F)):=bv4;obtain⟨β',hβ,vV,nL⟩:=jH (Bi.cd hE1);have hT:=hit (w.heap.size+1) (λpre=>pt (w.heap.size+1) (.loop rec)::I pre) (pt (w.heap.size+1) (.loop {rec with state:=.done,pending:=some .ret})::J) (λpre x post hx=>by
   refine YT.of (l:=w.heap.size+1) (ps:=ps) (r:=rec) (n:=N) (vs:=vs) ⟨_,aN.refl _⟩ aV5 (hl x) hp ⟨by rw[qL];exact he.1,U,by rw[qL];exact he.2.2⟩ ?_
   intro b' β' ZT lC yy
   have:=body b' β' (w.heap.size+1) rec pre x post hx lC yy aV5
   grind)
  have hc:=hT β' _ (G.mono hβ hG) vV;refine uw b.roundOf (hc.mono ?_);rintro e w3 ⟨B,hB,zU⟩;cases e with
  |panicked ch=>exact hB.elim
  |outgrown=>exact hB.elim
  |returned v=>
   have lP:=nL B w3 zU;have wq:∀(o:Obj) (Z:List az),((A++pt (w.heap.size+1) o::Z)++pt w.heap.size (.deferred (some []))::F).Perm (pt (w.heap.size+1) o::pt w.heap.size (.deferred (some []))::(A++Z++F)):=aJ3;rcases hB with hB|hB
   ·subst hB;have h5:=lP.cd (di (wq _ _));exact al7
   exact Se
end
def cV(L:List az):az:=⟨λr o=>nK L r o,λhr ho h=>js _ hr ho h⟩
theorem gp(F:List az):aN (L++F) (cV L::F):=by
 intro r o h;obtain⟨o1,o2,hd,h1,h2,ha,hb⟩:=jJ.1 h;exact⟨o1,o2,hd,h1,h2,ha,hb⟩
theorem gG(F:List az):aN (cV L::F) (L++F):=by
 intro r o ⟨o1,o2,hd,h1,h2,ha,hb⟩;exact jJ.2 ⟨o1,o2,hd,h1,h2,ha,hb⟩
theorem gH:aN L [cV L]:=by have:=gp L [];grind
theorem eW:aN [cV L] L:=by have:=gG L [];grind
theorem mg(A:List az){B C:List az}(h:aN B C):aN (A++B) (A++C):=(ur A B).trans ((iQ h A).trans (ur C A))
section
variable{P:Program}
theorem YT.dH{args:Array Value}{A':List az}{R R':Ending->List az->Prop}(h:YT P G l args A R)(hA:aN A' A)(hR:∀e B,R e B->∃B',R' e B'/\aN B B'):YT P G l args A' R':=by
 intro β w hG hs;obtain⟨f,tmps,bD4,bd,h1,h2⟩:=h β w hG (hs.cd hA);exact⟨f,tmps,bD4,bd,h1,λro=>(h2 ro).mono λe w' ⟨B,hB,zU⟩=>let⟨B',h3,h4⟩:=hR e B hB;⟨B',h3,zU.cd h4⟩⟩
theorem IT.mk{f:FuncId}{α:Type}{bo:α->List Value}{xs:List α}(h:∀(l:Nat) (I:List α->az) (J:az),(∀pre x post,xs=pre++x::post->YT P G l (bo x).toArray [I pre] (cb (YQ [I (pre++[x])] [J])))->
  TR P G f (.func (.yield l) #[] #[]::cap).toArray (A++[I []]) (cb λ_ B=>B=A++[I xs]\/B=A++[J])):IT P G f cap A bo xs:=by
 intro l I J hY
 refine(h l (λp=>cV (I p)) (cV J) λpre x post hx=>(hY pre x post hx).dH (eW _) ?_).dH (mg A (gH _)) ?_
 ·exact bo1
 ·rintro e B hB;cases e with
  |panicked ch=>exact hB.elim
  |outgrown=>exact hB.elim
  |returned v=>
   rcases hB with rfl|rfl
   ·exact⟨_,.inl U,mg A (eW _)⟩
   ·exact⟨_,.inr U,mg A (eW _)⟩
end
section
variable{P:Program}{vs:List (Nat×Value)}{rest:List Oper}
theorem rM{k:List Item}{G:bZ}(hG:G.on β)(hT:YT P G l us.toArray A (cb (YQ B1 B2)))(hw:aJ ops vs ⟨some d,.call ⟨.value (.tmp t),xs.toArray,qW⟩,ty,pos,af,g⟩=some true)(hn:aH d N=true)(ht:lk vs t=some (.func (.yield l) #[] #[]))(hx:nk vs xs=some us)[hA:ES Hs A F](h1:X P b β (some (ops,rest)) (.it k) ⟨N,(d,.bool true)::vs,ds⟩ (B1++F) R)(h2:X P b β (some (ops,rest)) (.it k) ⟨N,(d,.bool false)::vs,ds⟩ (B2++F) R):
 X P b β (some (ops,⟨some d,.call ⟨.value (.tmp t),xs.toArray,qW⟩,ty,pos,af,g⟩::rest)) (.it k) ⟨N,vs,ds⟩ Hs R:=by
 refine Pm hG hT hw hn ht hx hA.out ?_
 rintro v B (⟨rfl,rfl⟩|⟨rfl,rfl⟩)
 ·exact h1
 ·exact h2
theorem qg{k:List Item}(lC:b.roundOf=some l)[hE:FP Hs (pt l (.loop r)) F](hr:r.state=.ready)(h:X P b β none (.it k) E (pt l (.loop {r with state:=.busy})::F) R):X P b β none (.it (.beginRound::k)) E Hs R:=bc2 lC hE.out hr h
theorem ll(lC:b.roundOf=some l){F':List az}[hE:FP Hs (pt l (.loop {r with state:=.busy})) F][hs:ES F B1 F']:X P b β none (.it []) E Hs (cb (YQ (pt l (.loop {r with state:=.ready,pending:=none})::B1) B2)):=by
 refine aR4 lC hE.out ⟨_,.inl ⟨U,U⟩,aN.cons _ (hs.out.trans (fN _ _))⟩
theorem ab4{k:List Item}(lC:b.roundOf=some l){F':List az}[hE:FP Hs (pt l (.loop {r with state:=.busy})) F][hs:ES F B2 F']:X P b β none (.it (.code .ret::k)) E Hs (cb (YQ B1 (pt l (.loop {r with state:=.done,pending:=some .ret})::B2))):=by
 refine aU7 lC hE.out ⟨_,.inr ⟨U,U⟩,aN.cons _ (hs.out.trans (fN _ _))⟩
theorem XR.no(h:aN Hs (pu False::F)):XR P b β E Hs R:=λ_ _ _ _ hs=>(ln (hs.cd h)).1.elim
theorem qh{G:bZ}(hG:G.on β)(l9:mi b f0)[rH:CF P f]{g:Operand}{bd:Code}{k:List Item}{α:Type}{bo:α->List Value}{xs:List α}{F1:List az}(hit:IT P G f cap A bo xs)(hg:eo vs g=some (.func (.func f) #[] cap.toArray))(I:List α->List az)(I0:List az)(h0:I0=I [])[hA1:ES Hs A F1][hA2:ES F1 I0 F](hl:∀x,ps.length=(bo x).length)(hp:∀p∈ps,aH p N=true)(body:∀(b':Frame) (β':bS) (l:Nat) (r:Loop) (pre:List α) (x:α) (post:List α),xs=pre++x::post->b'.roundOf=some l->G.on β'->r.state=.ready->
  X P b' β' none (.it [.code bD4,.beginRound,.code bd]) ⟨N,yx ps (bo x) vs,[]⟩ (pt l (.loop r)::I pre) (cb (YQ (pt l (.loop {r with state:=.ready,pending:=none})::I (pre++[x])) (pt l (.loop {r with state:=.done,pending:=some .ret})::[pu False]))))(done:∀D,X P b β none (.it k) ⟨N,vs,⟨.collected D,#[]⟩::ds⟩ (pt D (.deferred (some []))::(A++I xs++F)) R):
 X P b β none (.it (.code (.rangeFunc g ps.toArray bD4 bd)::k)) ⟨N,vs,ds⟩ Hs R:=by
 subst h0
 refine Jw hG l9 hit hg I [pu False] (F:=F) aW4 hl hp body done λD=>?_
 refine XR.no (F:=pt D (.deferred (some []))::(A++F)) ?_
 refine(aN.cons _ ?_).trans (cQ _ _ _)
 refine di ?_
 simp_all
end
section
variable{P:Program}{vs:List (Nat×Value)}
theorem yg{k:List Item}{rs:List ResultVar}(l9:mi b f)[hf:FR P f rs]{l:List Value}[hE:FP Hs (pt D (.deferred (some []))) F](hl:jK P ⟨N,vs,[⟨.collected D,#[]⟩]⟩ F rs l)(h:∃C,R (.returned (lx l)) C/\aN F C):X P b β none (.it (.code .ret::k)) ⟨N,vs,[⟨.collected D,#[]⟩]⟩ Hs R:=aT9 l9 hE.out hl h
end
end
end Go.Sl
