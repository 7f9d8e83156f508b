/- A part of the proof of LabLines. -/
import Derived.Test.YtcicblljnenhoaaGreatDoorQC
open Bool renaming false_and->ab6,false_eq_true->bY
open Go.Instr renaming checkKey->gv
open Int renaming toNat_natCast->fG
open Go.IntKind renaming bits->gy,i64->dV,signed->iW,wrap->ic
open Go.Lib renaming compareBytes->cI
open List renaming Perm.cons->fS,Perm.refl->fR,Perm.swap->eu,append_assoc->bT,append_nil->ah,cons_append->ae,drop_eq_getElem_cons->aP,drop_of_length_le->bc,filterMap_cons->eI,findIdx?_eq_some_iff_getElem->bA,flatMap_cons->eQ,foldl_cons->cY,getElem?_eq_getElem->aV,getElem?_map->dO,getElem_cons_succ->dJ,getElem_map->ft,getElem_mem->aB,length->dq,length_append->aG,length_cons->ax,length_filter_le->dD,length_map->aA,length_nil->aR,length_pos_iff->fy,length_set->gB,length_take->cB,map_append->cq,map_congr_left->bQ,map_cons->aK,map_map->cz,map_nil->ie,map_set->eZ,mem_append->cM,mem_cons->bK,mem_map->bj,mem_singleton->bD,nil_append->ai,nodup_append->eP,nodup_cons->gA,perm_middle->ee,sum_cons->eC,take_add_one->aY,take_append_drop->cP,take_length->bh,take_of_length_le->aD,take_succ_eq_append_getElem->dd,take_zero->ik
open Nat renaming add_mul->fP,blt->aH,le_add_right->aT,le_of_ble_eq_true->aI,le_refl->ar,le_succ->gk,le_trans->aj,zero_add->aQ,zero_le->al
open Option renaming getD_some->bX,map_eq_some_iff->bk,map_some->bH,some.injEq->fF
open Go.Result renaming andThen_ok->aC
open Go.Sem renaming run->fo,run_bind->aU
open Go.Proofs.Tryz renaming prog->ab,underlying139->fg,underlying3->ed
open UInt32 renaming toNat_inj->dM
open UInt64 renaming ofNat->fE,toNat_inj->gL
open UInt8 renaming ofNat->cu,toNat_inj->aa2
open Go.Value renaming agg->gn
set_option linter.all false
set_option maxHeartbeats 4000000
namespace Go.Proofs
open Go.Sl
set_option maxRecDepth 8000
section
variable{args:Array Value}{l m:List (Bs×bF)}{R:Ending->List az->Prop}{A:List az}{P:Program}{f:FuncId}{e:Value}{t:be}{α:Type}(q:List (WB bn))(p:Place)(G:bZ)(K:Nat)(d:dR)(a:Option Addr)(n c:Nat)(xs:List Seen)(D:Nat)(s:be)(name:Bs)
structure be.eqv(t s:be):Prop where
 cap:t.cap=s.cap
 used:t.used=s.used
 fa:t.ga=s.ga
 ba:t.ep=s.ep
 done:t.done=s.done
 down:t.down=s.down
 files:t.files.Perm s.files
theorem be.eqv.refl:s.eqv s:=⟨U,U,U,U,U,U,.refl _⟩
theorem be.eqv.symm{s:be}(h:t.eqv s):s.eqv t:=⟨h.cap.symm,h.used.symm,h.fa.symm,h.ba.symm,h.done.symm,h.down.symm,h.files.symm⟩
theorem be.eqv.trans{s u:be}(h:t.eqv s)(g:s.eqv u):t.eqv u:=⟨h.cap.trans g.cap,h.used.trans g.used,h.fa.trans g.fa,h.ba.trans g.ba,h.done.trans g.done,h.down.trans g.down,h.files.trans g.files⟩
theorem vG(h:l.Perm m):gf l=gf m:=by
 grind [gf]
theorem be.eqv.ok{s:be}(h:t.eqv s)(g:t.ok):s.ok where
 nd:=(h.files.map _).nodup_iff.1 g.nd
 vX:=by rw[<-h.used,<-vG h.files];exact g.vX
 le:=by rw[<-h.used,<-h.cap];exact g.le
 cap:=by rw[<-h.cap];exact g.cap
 fa:=by rw[<-h.fa];exact g.fa
 ba:=by rw[<-h.ba];exact g.ba
 last:=λx hx=>g.last x (h.files.mem_iff.2 hx)
 name:=λx hx=>g.name x (h.files.mem_iff.2 hx)
theorem Sv{n:Bs}(h:l.Perm m):(l.map (·.1)).Nodup->l.find? (·.1=n)=m.find? (·.1=n):=by
 induction h<;>grind
theorem GP(h:l.Perm m)(hn:(l.map (·.1)).Nodup)(n:Bs):jE l n=jE m n:=by
 unfold jE;rw[Sv h hn]
theorem GQ(h:l.Perm m)(n:Bs)(f:bF):(nv l n f).Perm (nv m n f):=h.map _
theorem vH(h:l.Perm m)(n:Bs):(ku l n).Perm (ku m n):=h.filter _
section
variable {t s:be}
theorem be.eqv.find(h:t.eqv s)(g:t.ok)(n:Bs)(r:Bool):t.find n r=s.find n r:=by
 unfold be.find;rw[h.down,GP h.files g.nd]
theorem be.eqv.gZ(h:t.eqv s)(hp:l.Perm m)(u:Nat):(t.gZ l u).2=(s.gZ m u).2/\(t.gZ l u).1.eqv (s.gZ m u).1:=by
 have ha:t.oR.eqv s.oR:=⟨h.cap,h.used,by show t.ga - 1=_;rw[h.fa];rfl,by show t.ep - 1=_;rw[h.ba];rfl,h.done,h.down,h.files⟩;unfold be.gZ;rw[h.ba,h.done,h.fa];split
 ·split
  ·exact⟨U,⟨ha.cap,U,ha.fa,ha.ba,ha.done,U,hp⟩⟩
  ·exact⟨U,⟨ha.cap,ha.used,ha.fa,ha.ba,ha.done,U,ha.files⟩⟩
 ·split
  ·grind
  ·exact⟨U,⟨ha.cap,U,ha.fa,ha.ba,ha.done,ha.down,hp⟩⟩
theorem be.eqv.create(h:t.eqv s)(g:t.ok)(n:Bs):(t.create n).2=(s.create n).2/\(t.create n).1.eqv (s.create n).1:=by
 unfold be.create
 rw[h.find g,h.used]
 split
 ·grind
 ·split
  ·exact h.gZ (h.files.append_right _) _
  grind
theorem be.eqv.append(h:t.eqv s)(g:t.ok)(n ys:Bs):(t.append n ys).2=(s.append n ys).2/\(t.append n ys).1.eqv (s.append n ys).1:=by
 unfold be.append
 rw[h.find g,h.used,h.cap]
 split
 ·split
  ·grind
  exact aN3
 grind
theorem be.eqv.sync(h:t.eqv s)(g:t.ok)(n:Bs):(t.sync n).2=(s.sync n).2/\(t.sync n).1.eqv (s.sync n).1:=by
 unfold be.sync
 rw[h.find g,h.used]
 split
 ·split
  ·grind
  exact az8
 grind
theorem be.eqv.remove(h:t.eqv s)(g:t.ok)(n:Bs):(t.remove n).2=(s.remove n).2/\(t.remove n).1.eqv (s.remove n).1:=by
 unfold be.remove
 rw[h.find g,vG (vH h.files n)]
 split
 ·grind
 ·exact h.gZ (vH h.files _) _
theorem be.eqv.rename(h:t.eqv s)(g:t.ok)(n m:Bs):(t.rename n m).2=(s.rename n m).2/\(t.rename n m).1.eqv (s.rename n m).1:=by
 unfold be.rename
 rw[h.find g]
 have hp:∀f,(t.renamed n m f).Perm (s.renamed n m f):=λf=>by
  unfold be.renamed;split
  ·exact h.files
  ·exact(vH (vH h.files _) _).append_right _
 split
 ·split
  ·grind
  ·rw[vG (hp _)];exact h.gZ (hp _) _
 grind
theorem be.eqv.truncate(h:t.eqv s)(g:t.ok)(n:Bs)(k:Int):(t.truncate n k).2=(s.truncate n k).2/\(t.truncate n k).1.eqv (s.truncate n k).1:=by
 unfold be.truncate
 rw[h.find g,h.used]
 split
 ·split
  ·grind
  exact aN3
 grind
theorem be.eqv.read(h:t.eqv s)(g:t.ok)(n:Bs)(i j:Int):(t.read n i j).2=(s.read n i j).2/\(t.read n i j).1.eqv (s.read n i j).1:=by
 unfold be.read
 rw[h.find g,h.used]
 split
 ·split
  ·grind
  ·have ha:=h.gZ h.files s.used
   grind
 grind
theorem be.eqv.names(h:t.eqv s):t.names=s.names:=ob (h.files.map _)
theorem be.eqv.told(h:t.eqv s)(g:t.ok)(sz:bF->Nat):t.told sz=s.told sz:=by
 unfold be.told;rw[h.names];apply bQ;intro x _;unfold tL;rw[GP h.files g.nd]
theorem be.eqv.ji(h:t.eqv s)(k:Int):(t.ji k).eqv (s.ji k):=
 have hp:=h.files.map λx:Bs×bF=>(x.1,nw k.toNat x.2)
 ⟨h.cap,vG hp,U,U,h.done,U,hp⟩
end
def bM(D:Nat)(s:be):az:=ex λt:be=>[pu (t.eqv s),j7 D t]
theorem jb{D:Nat}{s:be}(h:t.eqv s)(F:List az):aN (j7 D t::F) (bM D s::F):=
 (dY h _).trans (gU (f:=λt:be=>[pu (t.eqv s),j7 D t]) t F)
section
variable {b:Frame}{β:bS}{k:Kt}{E:Env}{Hs F:List az}{R:Ending->List az->Prop}{cc:Option (Array Oper×List Oper)}
theorem tE{s:be}[hf:FK Hs bM D s F](h:s.ok->X ab b β cc k E Hs R):X ab b β cc k E Hs R:=
 jo λw hs=>by
  obtain⟨t,h1⟩:=iX (hs.cd hf.out);obtain⟨ht,h2⟩:=ln h1;obtain⟨q,h3⟩:=iX h2;exact⟨Hs,hs,h (ht.ok (ln h3).1)⟩
end
theorem j8{G:bZ}{f:Nat}{D:Nat}{s:be}(h:∀t:be,t.ok->t.eqv s->TR ab G f args (j7 D t::A) R):TR ab G f args (bM D s::A) R:=by
 intro β w hG hs
 obtain⟨t,h1⟩:=iX hs
 obtain⟨ht,h2⟩:=ln h1
 have dp:t.ok:=by obtain⟨q,h3⟩:=iX h2;exact(ln h3).1
 exact h t dp ht β w hG h2
theorem j'{G:bZ}{f:Nat}{Q Q':Value->List az->Prop}(h:TR ab G f args A (cb Q))(hq:∀v B,Q v B->∃C,Q' v C/\aN B C):TR ab G f args A (cb Q'):=
 h.dH (aN.refl _) λe B hB=>by
  cases e with
  |panicked ch=>exact hB.elim
  |outgrown=>exact hB.elim
  |returned v=>exact hq v B hB
theorem DW:
 TR ab G 309 #[au D,ao name] [bM D s] (cb λv B=>v=.int .i64 (s.create name).2/\B=[bM D (s.create name).1]):=
 j8 λt dp ht=>j' (RM G D t name) λv B ⟨h1,h2⟩=>⟨_,⟨by rw[h1,(ht.create dp name).1],U⟩,h2▸jb (ht.create dp name).2 []⟩
theorem DX:
 TR ab G 127 #[au D,ao name] [bM D s] (cb λv B=>v=.int .i64 (s.sync name).2/\B=[bM D (s.sync name).1]):=
 j8 λt dp ht=>j' (af8 G D t name) λv B ⟨h1,h2⟩=>⟨_,⟨by rw[h1,(ht.sync dp name).1],U⟩,h2▸jb (ht.sync dp name).2 []⟩
theorem N2:
 TR ab G 273 #[au D,ao name] [bM D s] (cb λv B=>v=.int .i64 (s.remove name).2/\B=[bM D (s.remove name).1]):=
 j8 λt dp ht=>j' (RQ G D t name) λv B ⟨h1,h2⟩=>⟨_,⟨by rw[h1,(ht.remove dp name).1],U⟩,h2▸jb (ht.remove dp name).2 []⟩
theorem N3(from_ bD5:Bs):
 TR ab G 277 #[au D,ao from_,ao bD5] [bM D s] (cb λv B=>v=.int .i64 (s.rename from_ bD5).2/\B=[bM D (s.rename from_ bD5).1]):=
 j8 λt dp ht=>j' (RW G D t from_ bD5) λv B ⟨h1,h2⟩=>⟨_,⟨by rw[h1,(ht.rename dp from_ bD5).1],U⟩,h2▸jb (ht.rename dp from_ bD5).2 []⟩
theorem Ip(n:Int):
 TR ab G 279 #[au D,ao name,.int .i64 n] [bM D s] (cb λv B=>v=.int .i64 (s.truncate name n).2/\B=[bM D (s.truncate name n).1]):=
 j8 λt dp ht=>j' (Kd G D t name n) λv B ⟨h1,h2⟩=>⟨_,⟨by rw[h1,(ht.truncate dp name n).1],U⟩,h2▸jb (ht.truncate dp name n).2 []⟩
theorem DY(a2:Option Addr)(m c2:Nat)(ys:Bs)(hm:ys.length=m)(Ib:m<=1000000000000):
 TR ab G 207 #[au D,ao name,.slice a2 m c2] [bM D s,bV RB 1 a2 ys] (cb λv B=>v=.int .i64 (s.append name ys).2/\B=[bM D (s.append name ys).1,bV RB 1 a2 ys]):=
 j8 λt dp ht=>j' (RO G D t name a2 m c2 ys hm Ib) λv B ⟨h1,h2⟩=>⟨_,⟨by rw[h1,(ht.append dp name ys).1],U⟩,h2▸jb (ht.append dp name ys).2 _⟩
theorem Xg(at_ n:Int)(ha:at_<=9223372036854775807)(hnn:n<=9223372036854775807):
 TR ab G 218 #[au D,ao name,.int .i64 at_,.int .i64 n] [bM D s] (cb λv B=>∃B',aC5 (s.read name at_ n).2 v B'/\B=bM D (s.read name at_ n).1::B'):=
 j8 λt dp ht=>j' (ag0 G D t name at_ n ha hnn) λv B ⟨B',h1,h2⟩=>⟨_,⟨B',by rw[<-(ht.read dp name at_ n).1];exact h1,U⟩,h2▸jb (ht.read dp name at_ n).2 _⟩
theorem Sw(hl:s.files.length<=1000000000000):
 TR ab G 119 #[au D] [bM D s] (cb λv B=>∃a c,v=.slice a s.names.length c/\B=[own 9 1 a s.names.length c (s.names.flatMap λk=>[ao k]),bM D s]):=
 j8 λt dp ht=>j' (Kg G D t bf6) λv B ⟨a,c,h1,h2⟩=>⟨_,⟨a,c,by rw[h1,ht.names],U⟩,by rw[h2,ht.names];exact aN.cons _ (jb ht [])⟩
theorem lW(hl:s.files.length<=1000000000000):
 TR ab G 30 #[au D] [bM D s] (cb λv B=>∃a c,v=.slice a s.all.length c/\B=[wS a c s.all,bM D s]):=
 j8 λt dp ht=>j' (Wj G D t bf6) λv B ⟨a,c,h1,h2⟩=>⟨_,⟨a,c,by rw[h1,show t.all=s.all from ht.told dp _],U⟩,by rw[h2,show t.all=s.all from ht.told dp _];exact aN.cons _ (jb ht [])⟩
theorem KY(hl:s.files.length<=1000000000000)(_:s.ok):
 TR ab G 125 #[au D] [bM D s] (cb λv B=>∃a c,v=.slice a s.lU.length c/\B=[wS a c s.lU,bM D s]):=
 j8 λt dp ht=>j' (NA G D t bf6 dp) λv B ⟨a,c,h1,h2⟩=>⟨_,⟨a,c,by rw[h1,show t.lU=s.lU from ht.told dp _],U⟩,by rw[h2,show t.lU=s.lU from ht.told dp _];exact aN.cons _ (jb ht [])⟩
theorem Sx(iL:Int):
 TR ab G 29 #[au D,.int .i64 iL] [bM D s] (cb λv B=>v=.int .i64 0/\B=[bM D (s.ji iL)]):=
 j8 λt dp ht=>j' (Wn G D t iL) λv B ⟨h1,h2⟩=>⟨_,⟨h1,U⟩,h2▸jb (ht.ji iL) []⟩
theorem DZ:TR ab G 120 #[au D] [bM D s] (cb λv B=>v=.bool s.down/\B=[bM D s]):=by
 refine j8 λt dp ht=>TR.go (us:=[_]) (aI U) λb β hb hG=>?_;refine X.ma j7 D U λq=>?_;obtain⟨M,bU⟩:=q;refine xD ?_;rw[<-ht.down];exact aE7
theorem Cs:TR ab G 42 #[au D] [bM D s] (cb λv B=>v=.int .i64 s.cap/\B=[bM D s]):=by
 refine j8 λt dp ht=>TR.go (us:=[_]) (aI U) λb β hb hG=>?_;refine X.ma j7 D U λq=>?_;obtain⟨M,bU⟩:=q;refine xD ?_;rw[<-ht.cap];exact aE7
theorem Xi:TR ab G 32 #[au D] [bM D s] (cb λv B=>v=.int .i64 s.used/\B=[bM D s]):=by
 refine j8 λt dp ht=>TR.go (us:=[_]) (aI U) λb β hb hG=>?_;refine X.ma j7 D U λq=>?_;obtain⟨M,bU⟩:=q;refine xD ?_;rw[<-ht.used];exact aE7
def be.fail(s:be)(n:Int):be×Int:=if n<0 then(s,70)else({s with ga:=n.toNat},0)
def be.break(s:be)(n:Int)(dn:Bool):be×Int:=if n<0 then(s,70)else({s with ep:=n.toNat,done:=dn},0)
theorem Xj(n:Int)(hn:n<=9223372036854775807):TR ab G 25 #[au D,.int .i64 n] [bM D s] (cb λv B=>v=.int .i64 (s.fail n).2/\B=[bM D (s.fail n).1]):=by
 refine j8 λt dp ht=>TR.go (us:=[_,_]) (aI U) λb β hb hG=>?_;unfold be.fail;refine X.ma j7 D U λq=>?_;obtain⟨M,bU⟩:=q;dsimp only[ae,ai,ah];refine lj λ_=>?_;refine xB ?_ ?_<;>intro h1
 ·exact bC6
 ·have h1:¬n<0:=by grind
  rw[if_neg h1];obtain⟨m,rfl⟩:∃k:Nat,n=k:=⟨n.toNat,by omega⟩;rw[fG];refine xS ?_;refine X.ret hb (.tmps U) ⟨_,⟨U,U⟩,(aN.fZ (s:={t with ga:=m}) (bU:=bU) ⟨dp.nd,dp.vX,dp.le,dp.cap,by grind,dp.ba,dp.last,dp.name⟩ (aN.refl _)).trans (jb (t:={t with ga:=m}) (s:={s with ga:=m}) ⟨ht.cap,ht.used,U,ht.ba,ht.done,ht.down,ht.files⟩ [])⟩
theorem Sy(n:Int)(dn:Bool)(hn:n<=9223372036854775807):TR ab G 28 #[au D,.int .i64 n,.bool dn] [bM D s] (cb λv B=>v=.int .i64 (s.break n dn).2/\B=[bM D (s.break n dn).1]):=by
 refine j8 λt dp ht=>TR.go (us:=[_,_,_]) (aI U) λb β hb hG=>?_;unfold be.break;refine X.ma j7 D U λq=>?_;obtain⟨M,bU⟩:=q;dsimp only[ae,ai,ah];refine lj λ_=>?_;refine xB ?_ ?_<;>intro h1
 ·exact bC6
 ·have h1:¬n<0:=by grind
  rw[if_neg h1];obtain⟨m,rfl⟩:∃k:Nat,n=k:=⟨n.toNat,by omega⟩;rw[fG];refine xS ?_;refine X.ret hb (.tmps U) ⟨_,⟨U,U⟩,(aN.fZ (s:={t with ep:=m,done:=dn}) (bU:=bU) ⟨dp.nd,dp.vX,dp.le,dp.cap,dp.fa,by grind,dp.last,dp.name⟩ (aN.refl _)).trans (jb (t:={t with ep:=m,done:=dn}) (s:={s with ep:=m,done:=dn}) ⟨ht.cap,ht.used,ht.fa,U,U,ht.down,ht.files⟩ [])⟩
def bw3(p:Option be×Int)(v:Value)(B:List az):Prop:=match p with
 |(none,e)=>v=.tuple #[.pointer none,.int .i64 e]/\B=[]
 |(some s,e)=>∃D,v=.tuple #[au D,.int .i64 e]/\B=[bM D s]
theorem Iq(cap:Int)(a:Option Addr)(n c:Nat)(xs:List bn)(hn:xs.length=n)(hs:n<=1099511627776)(hb:∀x∈xs,x.data.length<=1000000000000):
 TR ab G 8 #[.int .i64 cap,.slice a n c] [bV BY 2 a xs] (cb (bw3 (oT cap xs))):=
 j' (aX5 G cap a n c xs hn hs hb) λv B h=>by
  generalize oT cap xs=p at*;match p,h with
  |(none,e),h=>exact⟨_,h,aN.refl _⟩
  |(some s,e),⟨D,h1,h2⟩=>exact⟨_,⟨D,h1,U⟩,h2▸jb (be.eqv.refl s) []⟩
theorem UT{G:bZ}{A A':az}(h:TR P G f args [A] (cb λv B=>v=e/\B=[A']))(p:az):TR P G f args [p,A] (cb λv B=>v=e/\B=[p,A']):=by
 refine(CM h [p]).dH (cQ _ _ _) ?_;rintro(v|c|_) B h
 ·obtain⟨B',⟨rfl,rfl⟩,rfl⟩:=h;exact⟨_,⟨U,U⟩,cQ _ _ _⟩
 ·exact h.elim
 ·exact h.elim
abbrev WD:=Wr×be
def WD.settle(x:WD):WD×Int:=
 if x.1.loose=0 then(x,0)else
 let r:=x.2.sync (gr x.1)
 if r.2=0 then(({x.1.hit r.2 with loose:=0,count:=0},r.1),0)else((x.1.hit r.2,r.1),r.2)
theorem Av(W D:Nat)(x:WD):
 TR ab GG 142 #[au W] [bx W 177 (x.1.cs D),bM D x.2] (cb λv B=>v=.int .i64 x.settle.2/\B=[bx W 177 (x.settle.1.1.cs D),bM D x.settle.1.2]):=by
 refine cg U λb β hb hG=>xS ?_
 have e0:x.settle=if x.1.loose=0 then(x,0)else if(x.2.sync (gr x.1)).2=0 then(({x.1.hit (x.2.sync (gr x.1)).2 with loose:=0,count:=0},(x.2.sync (gr x.1)).1),0)else((x.1.hit (x.2.sync (gr x.1)).2,(x.2.sync (gr x.1)).1),(x.2.sync (gr x.1)).2):=U
 generalize x.settle=y at*
 refine xB ?_ ?_<;>intro h0
 ·have h0:x.1.loose=0:=by grind
  rw[if_pos h0]at e0;subst e0;exact xR
 ·have h0:¬x.1.loose=0:=by grind
  rw[if_neg h0]at e0;refine xS ?_;have hd:TR ab GG 127 ([au D]++[ao (gr x.1)]++[]).toArray [bx W 177 (x.1.cs D),bM D x.2] (cb λv B=>v=.int .i64 (x.2.sync (gr x.1)).2/\B=[bx W 177 (x.1.cs D),bM D (x.2.sync (gr x.1)).1]):=UT (DX GG D x.2 (gr x.1)) _;refine xH (Io W D x.1 127 [au D] [] (bM D x.2) _ _ hd) ?_;generalize x.2.sync (gr x.1)=r at*;refine xB ?_ ?_<;>intro h1
  ·have h1:r.2=0:=by grind
   rw[if_pos h1]at e0;subst e0;rw[h1];refine xS ?_;exact X.ret hb (.tmps U) ⟨[bx W 177 (Wr.cs D {x.1.hit 0 with loose:=0,count:=0}),bM D r.1],⟨U,U⟩,ay⟩
  ·have h1:¬r.2=0:=by grind
   rw[if_neg h1]at e0;subst e0;exact xR
theorem Ir:TR ab G 145 #[] [] (cb λv B=>∃K,v=au K/\B=[gS K []]):=by
 refine Py λb β hb hG=>xS ?_;refine qR ao U U λM=>?_;refine xP ?_;intro K;refine ML (([]:rZ).map kA) [] U ?_;refine X.cd (aN.trans (ay (A:=[bx K 234 [.map (some M)],mp ao M [],cV (([]:rZ).map kA)])) (ak6 (M:=M) (fs:=[]) (d:=[]) (fR _) ⟨List.nodup_nil,λx hx=>ua,λx hx=>ua⟩ [])) ?_;exact bO hb (.tmps U) ⟨K,U,U⟩
theorem aU8{G:bZ}(h:TR P G f args [] (cT e))(p:az):TR P G f args [p] (cb λv B=>v=e/\B=[p]):=by
 refine(CM h [p]).dH (aN.refl _) ?_;rintro(v|c|_) B h
 ·obtain⟨B',⟨rfl,rfl⟩,rfl⟩:=h;exact⟨_,⟨U,U⟩,aN.refl _⟩
 ·exact h.elim
 ·exact h.elim
def dR.add(d:dR)(l:List Seen):dR×Int:=if l.any (λs=> !s.may)=true then(d,80)else(l.foldl dR.take d,0)
theorem N4(l:List Seen)(i:Nat)(h:i<l.length):(l.take (i+1)).foldl dR.take d=((l.take i).foldl dR.take d).take l[i]:=by
 grind [aY]
theorem rC:∀(l:List Seen) (d:dR),d.ok->(∀s∈l,s.may=true)->(l.foldl dR.take d).ok/\dI (l.foldl dR.take d)<=dI d+l.length
 |[],d,h,_=>⟨h,by simp⟩
 |s::r,d,h,hl=>by
  have h1:=rC r (d.take s) (h.take (hl s nH)) (λx hx=>hl x a08);have h2:=HL h s;exact⟨h1.1,by rw[cY,ax];omega⟩
theorem ye{b:Frame}{β:bS}{k:Kt}{E:Env}{Hs F:List az}{cc:Option (Array Oper×List Oper)}{d:dR}[hf:FK Hs gS K d F](h:d.ok->X ab b β cc k E Hs R):X ab b β cc k E Hs R:=
 jo λw hs=>by
  obtain⟨⟨M,fs⟩,h1⟩:=iX (hs.cd hf.out)
  obtain⟨⟨hp,dp⟩,h2⟩:=ln h1
  grind
theorem Aw(hn:xs.length=n)(gE:dI d+n<=1000000000):
 TR ab G 138 #[au K,.slice a n c] [gS K d,bV (bp Seen.cs) 8 a xs] (cb λv B=>v=.int .i64 (d.add xs).2/\B=[gS K (d.add xs).1]):=by
 refine aW U λb β hb hG=>xS ?_
 refine ye K λdp=>?_
 refine HB a ?_
 refine xH (KS G a n c xs 211 [] [] (gS K d) (λs=> !s.may) (λx _=>aU8 (Sm G x) _) hn av) ?_
 unfold dR.add
 refine xB ?_ ?_<;>intro h1
 ·rw[if_pos h1];exact xR
 ·rw[if_neg (by simp[h1])];have qO:∀s∈xs,s.may=true:=by
   intro s hs;have:=(List.any_eq_false.1 h1) s hs;simpa using this
  refine xS ?_;refine eT [0,9] [0] (ι:={i:Nat // i<=n}) (λi q_=>(10,aX n)::(11,aX i.1)::q_) (λi q_=>gS K ((xs.take i.1).foldl dR.take d)::q_) (λi=>n - i.1) ⟨0,al _⟩ ?_;rintro⟨i,hi⟩ ih;dsimp only;refine xB ?_ ?_<;>intro h
  ·have hi:i<xs.length:=by simp at h;omega
   refine xS ?_;refine cH U U U U U hi hn λbl o=>?_;have hft:=N4 d xs i hi;have iq:xs[i]∈xs:=aB hi;generalize xs[i]=x at*;refine xS ?_;refine dF U U U U  ?_;refine xA ?_;intro b6;have hft2:=rC (xs.take i) d dp (λs hs=>qO s (List.mem_of_mem_take hs));have hln:(xs.take i).length<=n:=by rw[cB];omega
   refine xH (Qg G K ((xs.take i).foldl dR.take d) x (qO x iq) av) ?_;rw[<-hft];exact bI5
  ·have fw:i=n:=by simp at h;omega
   subst fw;rw[aD av];exact xR
def D3(m:Seen):List Seen->Seen
 |[]=>m
 |x::r=>D3 (if 0<Im x m then x else m) r
def vI:List Seen->Seen
 |[]=>.zero
 |x::r=>D3 x r
theorem N5(hn:xs.length=n)(h0:0<n)(hs:n<=1000000000):
 TR ab G 215 #[.slice a n c,.func (.func 216) #[] #[]] [bV (bp Seen.cs) 8 a xs] (cT (.agg (vI xs).cs.toArray)):=by
 refine aW U λb β hb hG=>?_
 refine xA ?_
 intro b4
 refine Cd (by rw[show decide ((n:Int)<1)=false from by simp;omega];rfl) (xS ?_)
 have h00:0<xs.length:=av
 refine cH U U U U U h00 hn λbl o=>xS ?_
 refine dF U U U U  ?_
 refine xA ?_
 intro b5
 have e0:vI xs=D3 xs[0] (xs.drop 1):=by
  cases xs with
  |nil=>simp at h00
  |cons x r=>rfl
 refine eT [0,1,4,5] [1,0] (ι:={q:Nat×Seen // 1<=q.1/\q.1<=n/\vI xs=D3 q.2 (xs.drop q.1)}) (λq q_=>(6,aX q.1.1)::q_) (λq q_=>bx b5 155 q.1.2.cs::q_) (λq=>n - q.1.1) ⟨(1,xs[0]),ar _,h0,e0⟩ ?_
 rintro⟨⟨i,m⟩,hi1,hi,hE⟩ ih
 dsimp only at hi1 hi hE ⊢
 refine xB ?_ ?_<;>intro h
 ·have hi:i<xs.length:=by grind
  rw[aP hi,D3]at hE;refine xS ?_;refine fM (uC [0,1,2,5]) [bx b5 155 m.cs] U ?_;refine xL [0,1,2,5] ?_;refine xS ?_;refine cH U U U U U hi hn λbl o=>?_;generalize hx:xs[i]=x at*;refine xS ?_;refine dF U U U U (xS ?_);refine ng (fst:=[]) (us:=[gn x.cs.toArray,gn m.cs.toArray]) (cap:=[]) hG (N0 G x m) U U U U  ?_;refine xB ?_ ?_<;>intro h2
  ·rw[if_pos bE]at hE;refine xS ?_;have h2':i<xs.length:=hi;refine cH U U U U U h2' hn λVM o2=>?_;rw[hx];refine xS ?_;refine dF U U U U (xS ?_);exact X.W (ih ⟨(i+1,x),by omega,by omega,hE⟩ bE)
  ·rw[if_neg bE]at hE;refine xS ?_;exact X.W (ih ⟨(i+1,m),by omega,by omega,hE⟩ bE)
 ·have fw:i=n:=by grind
  subst fw;rw[bc av,D3]at hE;refine xS ?_;exact bO hb (.gX U U .nil) ⟨by rw[hE];rfl,U⟩
def lL(l:List Seen):UInt64:=l.foldl (λm s=>if m.toNat<s.eB.toNat then s.eB else m) 0
def lM(l:List Seen):List Seen:=l.filter λs=>s.eB==lL l
def Bw:List Seen->Bool
 |[]=>true
 |x::r=>r.all λs=>s.place==x.place&&s.kind==x.kind
def rD(l:List Seen):Bool:= !Bw (lM l)&& !(lM l).all (·.open_)
def yX(m:UInt64)(s:Seen):UInt64:=if m.toNat<s.eB.toNat then s.eB else m
theorem KZ(m:UInt64)(s:Seen):(if(m.toNat:Int)<(s.eB.toNat:Int)then(s.eB.toNat:Int)else(m.toNat:Int))=((yX m s).toNat:Int):=by
 grind [yX]
theorem Xk(l:List Seen):lL l=l.foldl yX 0:=rfl
theorem sV{β:Type}(f:β->α->β)(b:β)(l:List α)(i:Nat)(h:i<l.length):(l.take (i+1)).foldl f b=f ((l.take i).foldl f b) l[i]:=by
 grind [aY]
theorem Bx(p:α->Bool)(l:List α)(i:Nat)(h:i<l.length):(l.take (i+1)).filter p=if p l[i]then(l.take i).filter p++[l[i]]else(l.take i).filter p:=by
 grind [aY]
theorem N6{r r':List Seen}{s x0:Seen}(h:r++[s]=x0::r'):Bw (x0::r')=(Bw r&&(s.place==x0.place&&s.kind==x0.kind)):=by
 cases r<;>grind [Bw]
theorem vJ(q:Place):((((p.qK.toNat:Int)==q.qK.toNat)&&((p.at_==q.at_)&&(p.len==q.len))))=(p==q):=by
 obtain⟨p1,p2,p3⟩:=p
 obtain⟨r1,r2,r3⟩:=q
 grind [dM]
def bw4(K:Nat)(d:dR)(l:List Seen)(v:Value)(B:List az):Prop:=∃a c,v=.tuple #[.slice a (lM l).length c,.bool (rD l)]/\B=[own 155 8 a (lM l).length c ((lM l).flatMap Seen.cs),gS K d]
def bl0(K M:Nat)(fs:rZ)(l:List Seen)(v:Value)(B:List az):Prop:=∃a c,v=.tuple #[.slice a (lM l).length c,.bool (rD l)]/\B=[own 155 8 a (lM l).length c ((lM l).flatMap Seen.cs),bx K 234 [.map (some M)],cV (fs.map kA)]
theorem GR(M:Nat)(fs:rZ)(d:dR)(hp:(FW fs).Perm d)(dp:d.ok)(jd:(fs.map (·.1)).Nodup)(key:Bs)(gE:dI d<=1000000000):
 TR ab G 214 #[au K,ao key] [rmp ao M (jA fs),bx K 234 [.map (some M)],cV (fs.map kA)] (cb (bl0 K M fs (kQ d key))):=by
 refine aW U λb β hb hG=>xS ?_
 refine UC key U U U U ?_
 rw[Ar]
 have hg:kQ d key=(mZ fs key).2:=bj2
 have Su:=r6 d key dp.nd
 refine Ce fs key jd ?_
 generalize hE:mZ fs key=e at*
 obtain⟨⟨a,c⟩,l⟩:=e
 dsimp only[vZ]at hg ⊢
 rw[hg]at Su ⊢
 refine xS ?_
 refine eT [0,1,4,5,18] [] (ι:={i:Nat // i<=l.length}) (λi q_=>(6,.int .u64 ((l.take i.1).foldl yX 0).toNat)::(19,aX l.length)::(20,aX i.1)::q_) (λi q_=>q_) (λi=>l.length - i.1) ⟨0,al _⟩ ?_
 rintro⟨i,hi⟩ ih
 dsimp only
 refine xB ?_ ?_<;>intro h
 ·have hi:i<l.length:=by grind
  have j6:=sV yX 0 l i hi;refine xS ?_;refine gV a av λbl Fh=>?_;subst Fh;refine du U U U U U hi (xS ?_);refine gN (bo:=Seen.cs) (l:=l) i U U U U (λ_=>rfl) nH hi  ?_;refine xA ?_;intro b8;rw[KZ,<-j6];exact aO9
 ·have fw:i=l.length:=by grind
  subst fw;rw[bh,<-Xk];clear ih;refine xS ?_;refine UC key U U U U ?_;rw[Ar,hE];dsimp only[vZ];refine xS ?_;refine X.cd (ej 155 8 _) ?_;refine X.loop (ι:={q:Nat×Option Addr×Nat // q.1<=l.length/\(q.1=0->q.2=(none,0))}) (λq=>([(0,au K),(1,ao key),(4,.slice q.1.2.1 ((l.take q.1.1).filter λs=>s.eB==lL l).length q.1.2.2),(5,.bool false),(6,.int .u64 (lL l).toNat),(9,.bool (Bw ((l.take q.1.1).filter λs=>s.eB==lL l))),(10,.bool (((l.take q.1.1).filter λs=>s.eB==lL l).all (·.open_))),(34,.slice a l.length c),(35,aX l.length),(36,aX q.1.1)],
   [own 155 8 q.1.2.1 ((l.take q.1.1).filter λs=>s.eB==lL l).length q.1.2.2 (((l.take q.1.1).filter λs=>s.eB==lL l).flatMap Seen.cs),own 155 8 a l.length c (l.flatMap Seen.cs),cV ((jN fs key).map kA),bx K 234 [.map (some M)],rmp ao M (jA fs)])) (λq=>l.length - q.1.1) ⟨(0,none,0),al _,λ_=>rfl⟩ (Sub.of U) (show aN _ [own 155 8 none 0 0 [],own 155 8 a l.length c (l.flatMap Seen.cs),cV ((jN fs key).map kA),bx K 234 [.map (some M)],rmp ao M (jA fs)]from ay) ?_
  rintro⟨⟨i,a2,c2⟩,hi,_⟩ ih;dsimp only at hi ⊢;have N7:((l.take i).filter λs=>s.eB==lL l).length<=l.length:=bE;refine xB ?_ ?_<;>intro h
  ·have hi:i<l.length:=by grind
   have j6:=Bx (λs=>s.eB==lL l) l i hi;generalize hr:(l.take i).filter (λs=>s.eB==lL l)=r at*;generalize lL l=top at*;refine xS ?_;refine gV a av λbl Fh=>?_;subst Fh;refine du U U U U U hi (xS ?_);refine gN (bo:=Seen.cs) (l:=l) i U U U U (λ_=>rfl) nH hi ?_;generalize l[i]=s at*;refine xA ?_;intro Bl;refine xB ?_ ?_<;>intro h2
   ·have h2:s.eB=top:=by grind [gL]
    rw[if_pos FG]at j6;refine xZ ?_;intro FE;refine eD (s) U U U U av U iA iA iA iA iA av λa8 c8=>?_;obtain⟨x0,r',hx⟩:∃x0 r',r++[s]=x0::r':=by cases r<;>exact⟨_,_,U⟩
    have jD:=N6 hx;have sE:(x0::r').all (·.open_)=(r.all (·.open_)&&s.open_):=bE;rw[hx]at j6 ⊢;refine gV a8 nH λbl8 h8=>?_;subst h8;refine xS ?_;refine jI (ι:={o:Bool // o=Bw (x0::r')}) (λo=>([(0,au K),(1,ao key),(4,.slice (some ⟨bl8,0,none⟩) (x0::r').length c8),(5,.bool false),(6,.int .u64 top.toNat),(9,.bool o.1),(10,.bool (r.all (·.open_))),(12,au Bl),(34,.slice (some ⟨bl,0,none⟩) l.length c),(35,aX l.length),(36,aX i)],
     [own 155 8 (some ⟨bl8,0,none⟩) (x0::r').length c8 ((x0::r').flatMap Seen.cs),bx Bl 155 s.cs,own 155 8 (some ⟨bl,0,none⟩) l.length c (l.flatMap Seen.cs),cV ((jN fs key).map kA),bx K 234 [.map (some M)],rmp ao M (jA fs)])) (λo=>?_) (λK1 fin=>?_)
    ·obtain⟨o,ho⟩:=o;dsimp only;subst ho;generalize r.all (·.open_)=kn at*;cases kn
     ·exact GK
     ·exact GK
    ·generalize Bw r=on at*;cases on
     ·refine eR 20 [1,0] ?_;refine xL [0,1,2,3,4,5,6,7,8,9,10,11,12,13,14,15,16,17,18,19] ?_;refine xS ?_;exact X.W (fin ⟨false,by rw[jD];rfl⟩)
     ·rw[Bool.true_and]at jD;by_cases tJ:s.place=x0.place
      ·have hpe:=(vJ s.place x0.place).trans (by simpa using tJ:(s.place==x0.place)=true);rw[tJ,beq_self_eq_true,Bool.true_and]at jD;refine eR 20 [1,0] ?_;apply cW [0,1,2,3,4,5,6,7,8,9,10,11,12,13,14,15,16,17,18,19] U U U
       ·intro p hp;refine xS ?_;refine du (j:=0) U U U U U nH (xS ?_);refine Mx (l:=x0.place.cs) U U U U U (xS ?_);refine aM 58 true U hpe (xS ?_);refine du (j:=0) U U U U U nH (xS ?_);refine X.iP (v:=.int .i64 x0.kind) U U U U (xS ?_);exact hp
       ·rfl
       ·rfl
       refine xS ?_;exact X.W (fin ⟨s.kind==x0.kind,jD.symm⟩)
      ·have hpe:=(vJ s.place x0.place).trans (by simpa using tJ:(s.place==x0.place)=false);rw[show(s.place==x0.place)=false from by grind,ab6]at jD;refine eR 20 [1,0] ?_;apply cW [0,1,2,3,4,5,6,7,8,9,10,11,12,13,14,15,16,17,18,19] U U U
       ·intro p hp;refine xS ?_;refine du (j:=0) U U U U U nH (xS ?_);refine Mx (l:=x0.place.cs) U U U U U (xS ?_);refine aM 58 false U hpe (xS ?_);exact hp
       ·rfl
       ·rfl
       refine xS ?_;exact X.W (fin ⟨false,jD.symm⟩)
   ·have h2:¬s.eB=top:=by grind
    rw[if_neg FG]at j6;refine xS ?_;refine X.less (ih ⟨(i+1,a2,c2),by omega,by simp⟩ bE) ?_ ?_
    ·dsimp only;rw[j6];exact bI6
    ·exact bB4
  ·have fw:i=l.length:=by grind
   subst fw;rw[bh];clear ih;have bu:∀(v:Bool),v=rD l->cb (bl0 K M fs l) (.returned (lx [.slice a2 (lM l).length c2,.bool v])) [own 155 8 a2 (lM l).length c2 ((lM l).flatMap Seen.cs),bx K 234 [.map (some M)],cV (fs.map kA)]:=λv hv=>⟨a2,c2,by rw[hv];rfl,U⟩;unfold rD at bu;rw[show(l.filter λs=>s.eB==lL l)=lM l from rfl];generalize lM l=r at*;generalize r.all (·.open_)=kn at*;generalize Bw r=on at*;refine x9 fs key jd hE ?_;cases on
   ·exact bC7
   ·exact bC7
instance(x:Bs×Aq):Nf (kA x):=⟨λr o h=>(inferInstance:Nf (own 155 8 x.2.1.1 x.2.2.length x.2.1.2 (x.2.2.flatMap Seen.cs))).out r o h⟩
theorem Ct{L:List az}(h:rP L):Nf (cV L):=⟨λ_ _ hs=>rP.nK h hs⟩
instance(fs:rZ):Nf (cV (fs.map kA)):=Ct ⟨λp hp=>by obtain⟨x,_,rfl⟩:=bj.1 hp;infer_instance⟩
theorem Sz(key:Bs)(gE:dI d<=1000000000):TR ab G 214 #[au K,ao key] [gS K d] (cb (bw4 K d (kQ d key))):=by
 intro β w hG hs;obtain⟨⟨M,fs⟩,h1⟩:=iX hs;obtain⟨⟨hp,dp⟩,h2⟩:=ln h1;have jd:(fs.map (·.1)).Nodup:=by
  have:=((hp.map (·.1)).nodup_iff.2 dp.nd)
  rwa [DU]at this
 obtain⟨x,hx,h3⟩:=Sat.map (h2.cd (cQ _ _ _));have hT:=Jh (GR G K M fs d hp dp jd key gE) bf0 hx;refine(hT β w hG h3).mono ?_;rintro e w' ⟨B,hB,vV⟩;cases e with
 |panicked ch=>exact hB.elim
 |outgrown=>exact hB.elim
 |returned v=>
  obtain⟨B',⟨a,c,rfl,rfl⟩,rfl⟩:=hB;refine⟨_,⟨a,c,U,U⟩,?_⟩;have h4:=mN (bo:=ao) (M:=jA fs) vV hx;refine h4.cd ?_;refine aN.trans (aN.es (A:=[bx K 234 [.map (some M)],mp ao M (jA fs),cV (fs.map kA)])) ?_;refine(ak6 hp dp _).trans ?_;exact cQ _ _ _
def ud(p q:Place):Bool:=decide (sL p q<0)
def uS(l:List Place):List Place:=l.mergeSort λx y=> !ud y x
theorem K0(q:Place):ud p q=true↔p.qK.toNat<q.qK.toNat\/(p.qK.toNat=q.qK.toNat/\(p.at_<q.at_\/(p.at_=q.at_/\p.len<q.len))):=by
 grind [mY,Ub,ud,sL]
theorem wZ(q:Place):ud p q=false↔¬(p.qK.toNat<q.qK.toNat\/(p.qK.toNat=q.qK.toNat/\(p.at_<q.at_\/(p.at_=q.at_/\p.len<q.len)))):=by
 grind [K0]
theorem By:ud p p=false:=by grind [wZ]
theorem D4(q r:Place):ud p q=true->ud q r=true->ud p r=true:=by grind [K0]
theorem Bz(q r:Place):ud p q=false->ud q r=false->ud p r=false:=by grind [wZ]
theorem D5(q:Place):ud p q=false->ud q p=false->p=q:=by
 simp only[wZ]
 intro h1 h2
 obtain⟨a,b,c⟩:=p
 obtain⟨d,e,f⟩:=q
 grind [dM]
theorem GS(l:List Place):(uS l).length=l.length:=List.length_mergeSort _
theorem D6(l:List Place):(uS l).Perm l:=List.mergeSort_perm _ _
theorem yY(l:List Place):(uS l).Pairwise λx y=>ud y x=false:=by
 have:=List.pairwise_mergeSort (le:=λx y=> !ud y x) (λa b c h1 h2=>by
  simp only[Bool.not_eq_true']at h1 h2 ⊢;exact Bz _ _ _ h2 h1) (λa b=>by
  cases h:ud b a
  ·simp
  ·cases h2:ud a b
   ·simp
   ·have:=D4 _ _ _ h h2;rw[By]at this;cases this) l
 exact this.imp bE
theorem Xl{l m:List Place}(h:l.Perm m):uS l=uS m:=
 ry (r:=λx y=>ud y x=false) (λa b h1 h2=>(D5 _ _ h2 h1)) ((D6 l).trans (h.trans (D6 m).symm)) (yY l) (yY m)
theorem SA(xs:List Place)(hn:xs.length=n)(hs:n<=1000000000000):
 TR ab G 452 #[.slice a n c,.func (.func 321) #[] #[]] [own 153 3 a n c (xs.flatMap Place.cs)] (cb λv B=>v=.tuple #[]/\B=[own 153 3 a n c ((uS xs).flatMap Place.cs)]):=
 haveI:Inhabited Place:=⟨⟨0,0,0⟩⟩
 haveI:TA ab (j9.t 24) true:=(inferInstance:TA ab 153 true)
 haveI:iI ab (j9.t 24) 3:=(inferInstance:iI ab 153 3)
 KR (ρ:=j9) BR 153 3 Place.cs (λ_=>rfl) (λ_=>rfl) de sL ⟨By,D4,Bz⟩ D5 321 (λx y=>Da GT x y) a n c xs hn hs
theorem N8(f:Nat)[CF ab f](cap:List Value)(A:List az)(uD tX:List Place->Prop)(hit:z7 ab G f cap A (λk:Place=>[Place.v k]) uD tX)(hl:∀p,uD p->p.length<=1000000000000)(hf:∀p,tX p->p.length<=1000000000000):
 TR ab G 379 #[.func (.func f) #[] cap.toArray,.func (.func 321) #[] #[]] [cV A] (cb λv B=>∃ys,tX ys/\∃a c,v=.slice a (uS ys).length c/\B=[own 153 3 a (uS ys).length c ((uS ys).flatMap Place.cs),cV A]):=by
 refine aW U λb β hb hG=>xS ?_
 refine bw (KP G f cap A uD tX hit hl) ?_
 rintro v B ⟨ys,yz,a,c,rfl,rfl⟩
 refine xD ?_
 refine xH (SA G a ys.length c ys U (hf ys yz)) ?_
 rw[<-GS ys]
 refine xS ?_
 exact bO hb (.tmps U) ⟨ys,yz,a,c,U,U⟩
theorem GU(l:Bs)(hn:l.length=n)(h0:a=none->n=0/\c=0)(hs:n<=1000000000000):
 TR ab G 174 #[.slice a n c] [bV RB 1 a l] (cb λv B=>∃a' c',(l.length<=c'/\(a'=none->l.length=0/\c'=0))/\v=.slice a' l.length c'/\B=[bV RB 1 a' l]):=by
 subst hn
 refine cg U λb β hb hG=>?_
 refine xB ?_ ?_<;>intro h
 ·obtain rfl:a=none:=by simp_all
  obtain⟨h1,rfl⟩:=h0 U;obtain rfl:l=[]:=List.length_eq_zero_iff.1 h1;refine xS ?_;exact bO hb (.tmps U) ⟨none,0,by simp,U,U⟩
 ·refine xS ?_;refine Mw U U λbl=>xS ?_;refine MC (bo:=λx:UInt8=>[fO x]) U U U U U U (λ_=>rfl) (λ_=>rfl) U av λa2 c2=>xS ?_;rw[aQ,ai,<-lD];refine ni a2 λh1 h2=>?_;refine iE a2 (l:=l) U λ_=>?_;exact bO hb (.tmps U) ⟨a2,c2,⟨h2,h1⟩,U,U⟩
def leF(x y:bn):Bool:= !decide (cI y.name x.name<0)
def pA(l:List bn):List bn:=l.mergeSort leF
def BA(q:List (WB bn)):List (WB bn):=q.mergeSort λx y=>leF x.1 y.1
theorem SB:(BA q).map (·.1)=pA (q.map (·.1)):=List.map_mergeSort λ_ _ _ _=>rfl
theorem SC:(BA q).length=q.length:=List.length_mergeSort _
theorem ak7(x y:WB bn):TR ab G 286 #[.agg (bG x).toArray,.agg (bG y).toArray] [] (cT (.int .i64 (cI x.1.name y.1.name))):=aG6
theorem yZ:∀x y:Bs,cI x y<0↔x<y
 |[],[]=>by simp[cI]
 |[],_::_=>by simp[cI]
 |_::_,[]=>by simp[cI]
 |a::r,b::bs=>by
  rw[List.cons_lt_cons_iff,<-yZ r bs];have e:cI (a::r) (b::bs)=if a<b then -1 else if b<a then 1 else cI r bs:=U;rw[e];split
  ·rename_i h;simp[h]
  ·rename_i h;split
   ·rename_i h2;have:a≠b:=λh3=>by subst h3;exact h h2
    simp[h,this]
   ·rename_i h2;have:a=b:=by
     apply aa2.1;have h3:¬a.toNat<b.toNat:=h;have h4:¬b.toNat<a.toNat:=h2;omega
    simp[this]
theorem Xn(ys:List (WB bn))(hinj:∀x∈ys,∀y∈ys,x.1.name=y.1.name->x=y)(d:{x // x∈ys})(xs:List {x // x∈ys})(a:Option Addr)(c:Nat)(hs:xs.length<=1000000000000):
 TR ab G 285 #[.slice a xs.length c,.func (.func 286) #[] #[]] [own 70 2 a xs.length c ((xs.map (·.1)).flatMap bG)] (cb λv B=>v=.tuple #[]/\B=[own 70 2 a xs.length c ((BA (xs.map (·.1))).flatMap bG)]):=by
 haveI:Inhabited {x // x∈ys}:=⟨d⟩
 haveI:TA ab (kb.t 24) true:=(inferInstance:TA ab 70 true)
 haveI:iI ab (kb.t 24) 2:=(inferInstance:iI ab 70 2)
 have key:=KR (ρ:=kb) (G:=G) BP (α:={x // x∈ys}) 70 2 (λx=>bG x.1) (λ_=>rfl) (λ_=>rfl) de (λx y=>cI x.1.1.name y.1.1.name)
  ⟨λx=>by grind [ltOf,yZ],λx y z h1 h2=>by
   grind [ltOf,yZ],λx y z h1 h2=>by
   grind [ltOf,yZ]⟩
  (λx y h1 h2=>by
   grind [ltOf,yZ]) 286 (λx y=>ak7 GT x.1 y.1) a xs.length c xs U hs
 have e1:(xs.map (·.1)).flatMap bG=xs.flatMap λx=>bG x.1:=by rw[List.flatMap_map]
 have e2:(BA (xs.map (·.1))).flatMap bG=(xs.mergeSort λx y=> !(ltOf λx y:{x // x∈ys}=>cI x.1.1.name y.1.1.name) y x).flatMap λx=>bG x.1:=by
  have:BA (xs.map (·.1))=(xs.mergeSort λx y=> !(ltOf λx y:{x // x∈ys}=>cI x.1.1.name y.1.1.name) y x).map (·.1):=(List.map_mergeSort (f:=λx:{x // x∈ys}=>x.1) λ_ _ _ _=>rfl).symm;rw[this,List.flatMap_map]
 rw[e1,e2]
 exact key
theorem SD(xs:List (WB bn))(hn:xs.length=n)(hs:n<=1000000000000)(hd:(xs.map (·.1.name)).Nodup):
 TR ab G 285 #[.slice a n c,.func (.func 286) #[] #[]] [own 70 2 a n c (xs.flatMap bG)] (cb λv B=>v=.tuple #[]/\B=[own 70 2 a n c ((BA xs).flatMap bG)]):=by
 subst hn
 cases xs with
 |nil=>
  have:=Xn G [((⟨[],[]⟩,none,0):WB bn)] (λx hx y hy _=>by grind) ⟨_,bD.2 U⟩ [] a c nH;exact this
 |cons x0 r=>
  have:=Xn G (x0::r) (λx hx y hy h=>by
   grind [List.mem_iff_getElem,List.pairwise_iff_getElem]) ⟨x0,List.mem_cons_self ..⟩ (x0::r).attach a c bE
  grind [List.attach_map_subtype_val]
end
section
variable{cc:Option (Array Oper×List Oper)}{l l':List bn}{R:Ending->List az->Prop}{s:eH}{Hs:List az}{P:Program}{α:Type}{L:Nat}{b:Frame}{op:Int}{nm:Bs}{E:Env}{β:bS}{k:Kt}(G:bZ)(M:Nat)(a:Option Addr)(n c:Nat)(q:List (WB bn))
theorem D7(l m:List bn):aZ (l++m)=aZ l+aZ m:=KD
theorem Is(l:List bn)(i:Nat):aZ (l.eraseIdx i)<=aZ l:=by
 rw[List.eraseIdx_eq_take_drop_succ,D7];have h:aZ l=aZ (l.take i)+aZ (l.drop i):=bm9;have h2:aZ (l.drop i)=aZ ((l.drop i).take 1)+aZ ((l.drop i).drop 1):=bm9;simp_all
theorem N9(l:List bn)(i:Nat)(f:bn)(h:f.data.length<=(rB l i).data.length):aZ (l.set i f)<=aZ l:=by
 grind [aP,cP,List.set_eq_take_append_cons_drop,rB,aZ]
theorem SE{i:Nat}(h:uR op l i s=some l'):aZ l'<=aZ l+s.data.length/\l'.length<=l.length+1:=by
 grind [uR,Is,uO,wY,N9]
theorem ra{l l':List bn}{s:eH}(h:jg l s=some l'):aZ l'<=aZ l+s.data.length/\l'.length<=l.length+1:=by
 unfold jg at h;split at h
 ·cases h
 ·split at h
  ·cases h
  ·exact SE h
theorem GV:¬0<=iH l nm↔nm∉l.map (·.name):=by
 have key:∀(l:List bn) (k:Nat),¬0<=cy (λf:bn=>f.name==nm) k l↔nm∉l.map (·.name):=by
  intro l;induction l<;>grind [cy]
 exact key l 0
theorem D8(h:0<=iH l nm):l[(iH l nm).toNat]?.map (·.name)=some nm:=by
 grind [qz,uP,iH]
theorem N'{i:Nat}(hi:op≠2->i<l.length/\(rB l i).name=s.name)(hw:op=2->s.name∉l.map (·.name))(hd:(l.map (·.name)).Nodup)(h:uR op l i s=some l'):(l'.map (·.name)).Nodup:=by
 unfold uR at h
 split at h
 ·grind
 ·split at h
  ·grind
  ·rename_i tH
   split at h
   ·grind
   ·obtain⟨hi1,FL⟩:=hi tH
    split at h
    ·split at h
     ·cases h
     ·split at h
      ·grind
      ·rename_i me
       cases h
       unfold wY
       split
       ·rename_i hk;have Ud:=qz hk;have hkn:=D8 hk;rw[aV Ud]at hkn;have hkn:l[(iH l s.uc).toNat].name=s.uc:=bE;generalize(iH l s.uc).toNat=k at*;have hki:k≠i:=by
         grind [rB]
        rw[map_eraseIdx,eZ];rw[List.Nodup,List.pairwise_iff_getElem]at hd ⊢;intro a b ha hb hab;have me:∀x y (hx:x<(l.map (·.name)).length) (hy:y<(l.map (·.name)).length),x≠y->(l.map (·.name))[x]≠(l.map (·.name))[y]:=by
         grind
        rw[List.length_eraseIdx_of_lt bE]at ha hb;simp only[gB,aA]at ha hb;have hto:∀x (hx:x<(l.map (·.name)).length),x≠k->(l.map (·.name))[x]≠s.uc:=by
         grind
        rw[List.getElem_eraseIdx,List.getElem_eraseIdx];have gen:∀x y (hx:x<((l.map (·.name)).set i s.uc).length) (hy:y<((l.map (·.name)).set i s.uc).length),x≠y->x≠k->y≠k->((l.map (·.name)).set i s.uc)[x]≠((l.map (·.name)).set i s.uc)[y]:=by
         grind
        split<;>split<;>exact gen _ _ _ _ av av av
       grind [GV,eZ]
    grind [eZ,rB]
theorem It(hd:(l.map (·.name)).Nodup)(h:jg l s=some l'):(l'.map (·.name)).Nodup:=by
 grind [jg,N',D8,rB,GV]
def uT:List bn->List eH->Option (List bn)
 |l,[]=>some l
 |l,s::r=>match jg l s with
  |none=>none
  |some l'=>uT l' r
def pP(l:List bn)(ss:List eH):Option (List bn):=if lI l=true then(uT l ss).map pA else none
def iM(ss:List eH):Nat:=(ss.map λs=>s.data.length).sum
def Cu:List bn->Nat->List eH->Nat
 |_,m,[]=>m
 |l,m,s::r=>Cu ((jg l s).getD l) (max m (aZ ((jg l s).getD l))) r
def sW(l:List bn)(ss:List eH):Nat:=Cu l (aZ l) ss
theorem Iu(s:eH)(r:List eH):iM (s::r)=s.data.length+iM r:=by simp[iM]
theorem mW{γ:Type}(f:α->γ)(l:List α)(i:Nat)(h:i<l.length):(l.map f).drop i=f l[i]::(l.map f).drop (i+1):=by
 grind [aP]
theorem K3(h:l.Perm l'):aZ l=aZ l':=by
 grind [aZ]
theorem w4(l:List bn):(pA l).Perm l:=List.mergeSort_perm l leF
theorem nx(l:List bn):aZ (pA l)=aZ l:=K3 (w4 l)
theorem GW(hn:q.length=n)(a2:Option Addr)(m c2:Nat)(ss:List (WB eH))(hm:ss.length=m)(h0:a=none->n=0/\c=0)(hs:n+m<=1000000000000)(hu:aZ (q.map (·.1))<=1000000000000)(hu2:∀l,pP (q.map (·.1)) (ss.map (·.1))=some l->aZ l<=1000000000000):
 TR ab G 178 #[.slice a n c,.slice a2 m c2] [bV (bp bG) 2 a q,dz bn.data q,bV (bp db) 5 a2 ss,dz eH.data ss]
  (cb λv B=>match pP (q.map (·.1)) (ss.map (·.1))with
   |none=>v=.tuple #[.slice none 0 0,.int .i64 110]/\B=[]
   |some l=>∃a3 c3,∃q':List (WB bn),q'.map (·.1)=l/\v=.tuple #[.slice a3 q'.length c3,.int .i64 0]/\B=[own 70 2 a3 q'.length c3 (q'.flatMap bG),dz bn.data q']):=by
 subst hn hm
 refine aW U λb β hb hG=>?_
 generalize bu:pP (q.map (·.1)) (ss.map (·.1))=res at*
 unfold pP at bu
 refine xJ (Qa G a _ c q U av av) ?_
 cases qO:lI (q.map (·.1))with
 |false=>
  rw[if_neg (by simp[qO])]at bu;subst bu;refine X.loop (ι:=Unit) (λ_=>([(1,.slice a2 ss.length c2),(7,.bool false),(8,aX 0)],[])) (λ_=>0) () (Sub.of U) (aN.nil _) λ_ _=>?_;dsimp only;refine xT 19 ?_ ?_<;>intro h;all_goals
   exact xR
 |true=>
 rw[if_pos qO]at bu
 have hnd0:((q.map (·.1)).map (·.name)).Nodup:=by
  grind [lI]
 refine X.loop (ι:={z:Nat×Option Addr×Nat×List (WB bn) // z.1<=ss.length/\(z.2.1=none->z.2.2.2.length=0/\z.2.2.1=0)/\z.2.2.2.length<=q.length+z.1/\lI (q.map (·.1))=true/\(uT (z.2.2.2.map (·.1)) ((ss.map (·.1)).drop z.1)).map pA=res/\((z.2.2.2.map (·.1)).map (·.name)).Nodup} ⊕ {z:Nat×Value // z.1<=ss.length/\res=none})
  (λz=>match z with
   |.inl z=>([(1,.slice a2 ss.length c2),(6,.slice z.1.2.1 z.1.2.2.2.length z.1.2.2.1),(7,.bool true),(8,aX z.1.1)],[bV (bp bG) 2 z.1.2.1 z.1.2.2.2,dz bn.data z.1.2.2.2,bV (bp db) 5 a2 ss,dz eH.data ss])
   |.inr z=>([(1,.slice a2 ss.length c2),(6,z.1.2),(7,.bool false),(8,aX z.1.1)],[])) (λz=>match z with|.inl z=>ss.length - z.1.1+1|.inr _=>0)
  (.inl ⟨(0,a,c,q),al _,h0,by simp,qO,by grind,hnd0⟩) (Sub.of U) ay ?_
 clear bu
 rintro(⟨⟨i,a6,c6,q6⟩,hi,h06,hl6,qO,Ax,hd6⟩|⟨⟨i,v6⟩,hi,Ax⟩) ih
 ·dsimp only at hi h06 hl6 Ax hd6 ⊢;refine xT 19 ?_ ?_<;>intro h
  ·have hi:i<ss.length:=by grind
   rw[mW _ _ _ hi]at Ax;have hrx:=λl'=>@ra (q6.map (·.1)) l' ss[i].1;have iq:=aB hi;have Wh:∀x∈[ss[i]],x∈ss:=bE;refine xS ?_;refine cH U U U U U hi U λbl o=>?_;generalize ss[i]=x at*;refine xS ?_;refine dF U U U U (xS ?_);refine rK (data:=eH.data) ss [x] Wh ?_;refine bw (DR G a6 _ c6 q6 U av h06 x) ?_;intro v B hq;unfold uT at Ax;cases Mr:jg (q6.map (·.1)) x.1 with
   |none=>
    rw[Mr]at hq Ax;obtain⟨u,rfl,rfl⟩:=hq;refine xD ?_;refine X.W (ih (.inr ⟨(i+1,u),by omega,Ax.symm⟩) bE)
   |some l=>
    rw[Mr]at hq Ax;obtain⟨h7,h8⟩:=hrx l Mr;obtain⟨a7,c7,q7,rfl,rfl,rfl⟩:=hq;rw[aA,aA]at h8;refine xD ?_;refine ni a7 λh9 Ml=>?_;refine dE a7 bG q7 U U (λ_=>rfl) λ_=>?_;refine X.W (ih (.inl ⟨(i+1,a7,c7,q7),by omega,h9,by grind,qO,Ax,It hd6 Mr⟩) bE)
  ·have fw:i=ss.length:=by grind
   subst fw;rw[bc nH]at Ax;have Ax:some (pA (q6.map (·.1)))=res:=Ax;subst Ax;have hq6:q6.length<=1000000000000:=av;have hb6:aZ (q6.map (·.1))<=1000000000000:=by grind [nx]
   clear hu2;refine xS ?_;refine X.cd (ej 70 2 _) ?_;refine Pv bn.data ?_;refine X.loop (ι:={z:Nat×Option Addr×Nat×List (WB bn) // z.1<=q6.length/\z.2.2.2.map (·.1)=(q6.map (·.1)).take z.1})
    (λz=>([(9,.slice z.1.2.1 z.1.2.2.2.length z.1.2.2.1),(35,.slice a6 q6.length c6),(36,aX q6.length),(37,aX z.1.1)],[own 70 2 z.1.2.1 z.1.2.2.2.length z.1.2.2.1 (z.1.2.2.2.flatMap bG),dz bn.data z.1.2.2.2,bV (bp bG) 2 a6 q6,dz bn.data q6])) (λz=>q6.length - z.1.1)
    ⟨(0,none,0,[]),al _,U⟩ (Sub.of U) (show aN _ [own 70 2 none 0 0 [],dz bn.data [],bV (bp bG) 2 a6 q6,dz bn.data q6]from ay) ?_
   rintro⟨⟨i,a9,c9,q9⟩,hi,hq9⟩ pG;dsimp only at hi hq9 ⊢;have hl9:q9.length<=q6.length:=by
    have:=congrArg dq hq9;simp at this;omega
   refine xB ?_ ?_<;>intro h2
   ·have hi:i<q6.length:=by grind
    have vy:(q6.map (·.1)).take (i+1)=(q6.map (·.1)).take i++[q6[i].1]:=NS;have hbx:q6[i].1.data.length<=1000000000000:=by
     grind [oW,rY]
    rw[<-hq9]at vy;refine oI (data:=bn.data) q6 q6[i] (aB hi) λjz mD=>xS ?_;refine cH U U U U U hi U λbl o=>?_;generalize q6[i]=x at*;refine xS ?_;refine dF U U U U  ?_;refine xA ?_;intro wu;refine eR 5 [0] ?_;refine xL [0,1,2,3,4] ?_;refine xS ?_;refine bw (GU G x.2.1 _ x.2.2 x.1.data U mD hbx) ?_;rintro v B ⟨a8,c8,⟨h5,h6⟩,rfl,rfl⟩;refine xD ?_;refine xZ ?_;intro rR;refine eD (((x.1,a8,c8):WB bn)) U U U U av U iA iA iA iA iA av λa7 c7=>xS ?_;refine Pp (data:=bn.data) q9 ((x.1,a8,c8):WB bn) h5 h6 ?_;refine rK (data:=bn.data) ((x.1,a8,c8)::q9) (q9++[((x.1,a8,c8):WB bn)]) (λy hy=>by
     grind) ?_
    refine X.W (pG ⟨(i+1,a7,c7,q9++[((x.1,a8,c8):WB bn)]),by omega,by grind⟩ bE)
   ·have fw:i=q6.length:=by grind
    subst fw;rw[aD nH]at hq9;rw[<-hq9]at hd6 ⊢;refine xH (SD G a9 _ c9 q9 U av bE) ?_;rw[<-SC q9];refine xS ?_;refine rK (data:=bn.data) q9 (BA q9) (λx hx=>(List.mergeSort_perm _ _).mem_iff.1 hx) ?_;exact bO hb (.tmps U) ⟨a9,c9,BA q9,SB q9,U,U⟩
 ·subst Ax;dsimp only at hi ⊢;refine xT 19 ?_ ?_<;>intro h;all_goals
   exact xR
theorem D9(hn:q.length=n)(a2:Option Addr)(m c2:Nat)(ss:List (WB eH))(hm:ss.length=m)(h0:a=none->n=0/\c=0)(hs:n+m<=1000000000000)(hu:aZ (q.map (·.1))+iM (ss.map (·.1))<=1000000000000000000):
 TR ab G 220 #[.slice a n c,.slice a2 m c2] [bV (bp bG) 2 a q,dz bn.data q,bV (bp db) 5 a2 ss,dz eH.data ss] (cT (aX (sW (q.map (·.1)) (ss.map (·.1))))):=by
 subst hn hm
 refine aW U λb β hb hG=>?_
 generalize bu:sW (q.map (·.1)) (ss.map (·.1))=res
 unfold sW at bu
 refine xJ (qy G a _ c q U av av) ?_
 refine X.loop (ι:={z:Nat×Option Addr×Nat×List (WB bn)×Nat // z.1<=ss.length/\(z.2.1=none->z.2.2.2.1.length=0/\z.2.2.1=0)/\z.2.2.2.1.length<=q.length+z.1/\Cu (z.2.2.2.1.map (·.1)) z.2.2.2.2 ((ss.map (·.1)).drop z.1)=res/\aZ (z.2.2.2.1.map (·.1))+iM ((ss.map (·.1)).drop z.1)<=1000000000000000000})
  (λz=>([(5,.slice z.1.2.1 z.1.2.2.2.1.length z.1.2.2.1),(6,aX z.1.2.2.2.2),(14,.slice a2 ss.length c2),(15,aX ss.length),(16,aX z.1.1)],[bV (bp bG) 2 z.1.2.1 z.1.2.2.2.1,dz bn.data z.1.2.2.2.1,bV (bp db) 5 a2 ss,dz eH.data ss])) (λz=>ss.length - z.1.1)
  ⟨(0,a,c,q,aZ (q.map (·.1))),al _,h0,by simp,by grind,by grind⟩ (Sub.of U) ay ?_
 clear bu
 rintro⟨⟨i,a6,c6,q6,mx⟩,hi,h06,hl6,Ax,hu6⟩ ih
 dsimp only at hi h06 hl6 Ax hu6 ⊢
 refine xB ?_ ?_<;>intro h
 ·have hi:i<ss.length:=by grind
  rw[mW _ _ _ hi]at Ax hu6;have hrx:=λl'=>@ra (q6.map (·.1)) l' ss[i].1;have iq:=aB hi;rw[Iu]at hu6;have Wh:∀x∈[ss[i]],x∈ss:=bE;refine xS ?_;refine cH U U U U U hi U λbl o=>?_;generalize ss[i]=x at*;refine xS ?_;refine dF U U U U  ?_;refine xA ?_;intro b8;refine rK (data:=eH.data) ss [x] Wh ?_;refine ei hG (DR G a6 _ c6 q6 U av h06 x) U U U iv ?_;intro v B hq;unfold Cu at Ax;cases Mr:jg (q6.map (·.1)) x.1 with
  |none=>
   rw[Mr]at hq Ax;simp only[Option.getD_none]at Ax;obtain⟨u,rfl,rfl⟩:=hq;refine xD ?_;refine xJ (qy G a6 _ c6 q6 U av av) ?_;have hmx:(if(mx:Int)<(aZ (q6.map (·.1)):Nat)then((aZ (q6.map (·.1)):Nat):Int)else(mx:Int))=((max mx (aZ (q6.map (·.1))):Nat):Int):=av;refine X.less (ih ⟨(i+1,a6,c6,q6,max mx (aZ (q6.map (·.1)))),by omega,h06,by grind,Ax,by grind⟩ bE) (Y7 U (eN U (by grind [aX])) U U (eN U pH)) ay
  |some l=>
   rw[Mr]at hq Ax;simp only[bX]at Ax;obtain⟨h7,h8⟩:=hrx l Mr;obtain⟨a7,c7,q7,rfl,rfl,rfl⟩:=hq;rw[aA,aA]at h8;refine xD ?_;refine ni a7 λh9 Ml=>?_;refine dE a7 bG q7 U U (λ_=>rfl) λ_=>?_;refine xJ (qy G a7 _ c7 q7 U av av) ?_;have hmx:(if(mx:Int)<(aZ (q7.map (·.1)):Nat)then((aZ (q7.map (·.1)):Nat):Int)else(mx:Int))=((max mx (aZ (q7.map (·.1))):Nat):Int):=av;refine X.less (ih ⟨(i+1,a7,c7,q7,max mx (aZ (q7.map (·.1)))),by omega,h9,by grind,Ax,by grind⟩ bE) (Y7 U (eN U (by grind [aX])) U U (eN U pH)) ay
 ·have fw:i=ss.length:=by grind
  subst fw;rw[bc nH]at Ax;have Ax:mx=res:=Ax;subst Ax;exact xR
def recAt(no:UInt32)(x:rI):Place×Rec:=(⟨no,x.at_,x.size⟩,x.f.kG)
def nM(l:List B0):List (Place×Rec):=l.flatMap λf=>(fV f.iD.data []).map (recAt f.no)
def lN(l:List bn):List (Place×Rec):=nM (vY 1 l)
@[reducible] def pr2(x:Place×Rec):List Value:=[.agg x.1.cs.toArray,.agg x.2.cs.toArray]
theorem Iv:TR ab G 146 #[.slice a n c] [] (cb λv B=>∃p,v=.func (.func 232) #[] #[au p]/\B=[bx p 67 [.slice a n c]]):=Ka
theorem Ay(b:Bs):(fV b []).length<=b.length:=aj (dD _ _) (lS b)
theorem Iw(p:Nat)(a:Option Addr)(n c:Nat)(q:List (WB bn))(hn:q.length=n)(hs:n<=1000000000000)(hb:∀x∈q,x.1.name.length<=1000000000000/\x.1.data.length<=1000000000):
 IT ab GG 232 [au p] [bx p 67 [.slice a n c],bV (bp bG) 2 a q,dz bn.data q] pr2 (lN (q.map (·.1))):=by
 refine IT.mk λl I J hY=>?_
 refine aW U λb β Sj hG=>xD ?_
 refine ei hG (Il 1 a n c q hn hs (λx hx=>(hb x hx).1)) U U U iv ?_
 rintro v B ⟨a8,c8,rfl,rfl⟩
 dsimp only[ae,ai,ah]
 have hQl:(lJ 1 q).length<=n:=al0
 have hQd:∀x∈lJ 1 q,x.1.iD.data.length<=1000000000:=λx hx=>(hb _ (oc hx)).2
 refine CT (data:=bn.data) (λx:B0=>x.iD.data) q (lJ 1 q) (λy hy=>⟨_,oc hy,y.1.iD.data.length,U,by rw[bh]⟩) ?_
 have hv:lN (q.map (·.1))=nM ((lJ 1 q).map (·.1)):=by rw[vF];rfl
 rw[hv]at hY ⊢
 generalize lJ 1 q=Q at*
 refine dE a8 lh Q U U (λ_=>rfl) λhc=>xS ?_
 refine eT [0,8] [5] (ι:={i:Nat // i<=Q.length}) (λi q_=>(9,aX Q.length)::(10,aX i.1)::q_) (λi q_=>I (nM ((Q.map (·.1)).take i.1))::q_) (λi=>Q.length - i.1) ⟨0,al _⟩ ?_
 rintro⟨i,hi⟩ ih
 dsimp only
 refine xB ?_ ?_<;>intro h
 ·have hi:i<Q.length:=by grind
  have vy:(Q.map (·.1)).take (i+1)=(Q.map (·.1)).take i++[Q[i].1]:=NS;have Ue:Q.map (·.1)=(Q.map (·.1)).take i++Q[i].1::(Q.map (·.1)).drop (i+1):=by
   grind [cP]
  have iq:=aB hi;have hdx:=hQd _ iq;refine oI (data:=λx:B0=>x.iD.data) Q Q[i] iq λjz mD=>xS ?_;refine cH U U U U U hi U λbl o=>?_;generalize Q[i]=x at*;refine xS ?_;refine dF U U U U  ?_;refine xA ?_;intro b4;refine jl Int RK 1 ?_;refine ei hG (wN GG x.2.1 _ x.2.2 x.1.iD.data none 0 0 [] U jz hdx U de) U U U iv ?_;rintro v B ⟨a17,c17,rfl,rfl⟩;dsimp only[ae,ai,ah];have N7:=aj (Ay x.1.iD.data) hdx;have hvx:∀j,nM ((Q.map (·.1)).take i)++((fV x.1.iD.data []).take j).map (recAt x.1.no)=nM ((Q.map (·.1)).take i)++((fV x.1.iD.data []).take j).map (recAt x.1.no):=λ_=>rfl;have hvi:nM ((Q.map (·.1)).take (i+1))=nM ((Q.map (·.1)).take i)++(fV x.1.iD.data []).map (recAt x.1.no):=by
   grind [nM]
  have hva:nM (Q.map (·.1))=nM ((Q.map (·.1)).take i)++((fV x.1.iD.data []).map (recAt x.1.no)++nM ((Q.map (·.1)).drop (i+1))):=by
   grind [nM]
  generalize nM ((Q.map (·.1)).drop (i+1))=post at*;generalize nM ((Q.map (·.1)).take i)=pre at*;generalize fV x.1.iD.data []=rs at*;refine dE a17 rI.cs rs U U (λ_=>rfl) λhc17=>xS ?_;refine X.loop (ι:={j:Nat // j<=rs.length}) (λj=>([(0,.func (.yield l) #[] #[]),(4,au b4),(8,.slice a8 Q.length c8),(9,aX Q.length),(10,aX i),(17,.slice a17 rs.length c17),(18,aX rs.length),(19,aX j.1)],[I (pre++(rs.take j.1).map (recAt x.1.no)),bV (bp rI.cs) 16 a17 rs,bx b4 262 (lh x),bV (bp lh) 3 a8 Q,dz (λx:B0=>x.iD.data) Q,bx p 67 [.slice a n c],bV (bp bG) 2 a q,dz bn.data q])) (λj=>rs.length - j.1) ⟨0,al _⟩ (Sub.of U) (by
   dsimp only;rw[ik,ie,ah];exact ay) ?_
  rintro⟨j,hj⟩ pG;dsimp only;refine xB ?_ ?_<;>intro h2
  ·have hj:j<rs.length:=by grind
   have hsj:rs.map (recAt x.1.no)=(rs.take j).map (recAt x.1.no)++recAt x.1.no rs[j]::(rs.drop (j+1)).map (recAt x.1.no):=by
    grind [aP,cP]
   have htj:(rs.take (j+1)).map (recAt x.1.no)=(rs.take j).map (recAt x.1.no)++[recAt x.1.no rs[j]]:=NS;have hy:=hY (pre++(rs.take j).map (recAt x.1.no)) (recAt x.1.no rs[j]) ((rs.drop (j+1)).map (recAt x.1.no)++post) (by rw[hva,hsj];simp);rw[bT,<-htj]at hy;refine xS ?_;refine cH U U U U U hj U λVM o2=>?_;generalize rs[j]=y at*;refine xS ?_;refine dF U U U U  ?_;refine xA ?_;intro b6;refine rM hG hy U U U U ?_ ?_
   ·refine xD ?_;exact aR0
   ·refine xD ?_;exact X.ret Sj (.tmps U) ⟨_,.inr U,ay⟩
  ·have Mp:j=rs.length:=by grind
   subst Mp;rw[bh];refine xS ?_;exact X.less (ih ⟨i+1,by omega⟩ bE) (EL U U U (eN U pH)) (by dsimp only;rw[hvi];exact ay)
 ·have fw:i=Q.length:=by grind
  subst fw;rw[aD nH];refine xS ?_;exact X.fin Sj (.tmps U) ⟨_,.inl U,ay⟩
structure Mk where
 now:List bn
 cap:Int
 steps:List eH
 gu:Nat
 top:UInt64
 bz:Nat
 cD:Nat
 ky:Nat
structure Ui where
 q:List (WB bn)
 a:Option Addr
 c:Nat
 ss:List (WB eH)
 sa:Option Addr
 sc:Nat
 fa:Option Addr
 fc:Nat
 fx:List Value
structure Ui.ok(p:Ui)(m:Mk):Prop where
 now:p.q.map (·.1)=m.now
 nil:p.a=none->p.q.length=0/\p.c=0
 steps:p.ss.map (·.1)=m.steps
@[reducible] def Mk.cs(m:Mk)(p:Ui):List Value:=[.slice p.a p.q.length p.c,.int .i64 m.cap,.slice p.sa p.ss.length p.sc,.slice p.fa m.gu p.fc,.int .u64 m.top.toNat,.int .i64 m.bz,.int .i64 m.cD,.int .i64 m.ky]
@[reducible] def bR(M:Nat)(m:Mk)(p:Ui):List az:=[bx M 258 (m.cs p),bV (bp bG) 2 p.a p.q,dz bn.data p.q,own 266 5 p.sa p.ss.length p.sc (p.ss.flatMap db),dz eH.data p.ss,own 270 5 p.fa m.gu p.fc p.fx,pu (p.ok m)]
def uh(M:Nat)(m:Mk):az:=ex (bR M m)
@[reducible] def eV(e:Int):Value:=.iface 23 (.int .i64 e)
instance:NH ab 23:=⟨by kernel_rfl⟩
def Mk.do(m:Mk)(s:eH):Except Int Mk:=
 match jg m.now s with
 |none=>.error 110
 |some l=>if((max m.ky (aZ l):Nat):Int)>m.cap then .error 111 else .ok {m with now:=l,steps:=m.steps++[s],ky:=max m.ky (aZ l)}
theorem D'(m:Mk)(st:WB eH)(h1:m.now.length<=900000000000)(h2:m.steps.length<=900000000000)(h3:aZ m.now+st.1.data.length<=1000000000000):
 TR ab G 169 #[au M,.agg (db st).toArray] [uh M m,dz eH.data [st]] (MR eV (m.do st.1) λm' v B=>v=.tuple #[]/\B=[uh M m']):=by
 refine aW U λb β hb hG=>?_
 obtain⟨now,cap,steps,gu,top,bz,cD,ky⟩:=m
 refine X.ma uh M U λp=>?_
 obtain⟨q,a,c,ss,sa,sc,fa,fc,fx⟩:=p
 dsimp only[ae,ai]at*
 refine lj λhp=>?_
 obtain⟨rfl,M9,rfl⟩:=hp
 dsimp only at*
 rw[aA]at h1 h2
 obtain⟨⟨so,sn,st2,sd,sN⟩,sta,stc⟩:=st
 dsimp only at*
 refine xP ?_
 intro b3
 refine jI (ι:={z:Value ⊕ (Option Addr×Nat×List (WB bn)) // match z with|.inl _=>jg (q.map (·.1)) ⟨so,sn,st2,sd,sN⟩=none|.inr z=>jg (q.map (·.1)) ⟨so,sn,st2,sd,sN⟩=some (z.2.2.map (·.1))/\(z.1=none->z.2.2.length=0/\z.2.1=0)})
  (λz=>match z.1 with
   |.inl u=>([(0,au M),(3,au b3),(4,u),(5,.bool false)],[])
   |.inr z=>([(0,au M),(3,au b3),(4,.slice z.1 z.2.2.length z.2.1),(5,.bool true)],[bx M 258 [.slice a q.length c,.int .i64 cap,.slice sa ss.length sc,.slice fa gu fc,.int .u64 top.toNat,.int .i64 bz,.int .i64 cD,.int .i64 ky],bx b3 266 [.int .i64 so,ao sn,ao st2,.slice sta sd.length stc,.int .i64 sN],bV (bp bG) 2 z.1 z.2.2,dz bn.data z.2.2,own 266 5 sa ss.length sc (ss.flatMap db),dz eH.data ss,own 270 5 fa gu fc fx,dz eH.data [((⟨so,sn,st2,sd,sN⟩,sta,stc):WB eH)]])) ?fin ?main
 case main=>
  intro KK dW;refine eR 5 [1,0] ?_;refine xL [0,1,2,3,4] ?_;refine xS ?_;refine ei hG (DR G a _ c q U av M9 ⟨⟨so,sn,st2,sd,sN⟩,sta,stc⟩) U U U iv ?_;intro v B hq;cases Mr:jg (q.map (·.1)) ⟨so,sn,st2,sd,sN⟩with
  |none=>
   rw[Mr]at hq;obtain⟨u,rfl,rfl⟩:=hq;dsimp only[ae,ai,ah];have hf:=X.less (dW ⟨.inl u,Mr⟩) (vs:=[(0,au M),(3,au b3),(4,u),(5,.bool false)]) (λ_ _ h=>h) (Hs:=[]) ay;exact aF8
  |some l=>
   rw[Mr]at hq;obtain⟨a4,c4,q4,rfl,rfl,rfl⟩:=hq;dsimp only[ae,ai,ah];refine ni a4 λh9 Ml=>?_;refine dE a4 bG q4 U U (λ_=>rfl) λ_=>?_;have hf:=dW ⟨.inr (a4,c4,q4),Mr,h9⟩;dsimp only at hf;exact aF8
 case fin=>
  unfold Mk.do;dsimp only;rintro⟨u|⟨a4,c4,q4⟩,hz⟩
  ·dsimp only at hz ⊢;rw[hz];exact aB4
  ·dsimp only at hz ⊢;obtain⟨Mr,h9⟩:=hz;have hus:=ra Mr;rw[aA,aA]at hus;dsimp only at hus;rw[Mr];dsimp only;refine xS ?_;refine eR 7 [0,1] ?_;refine xL [0,1,2,3,4,5,6] ?_;refine xZ ?_;intro b29;refine eD (((⟨so,sn,st2,sd,sN⟩,sta,stc):WB eH)) U U U U av U iA iA iA iA iA av λa5 c5=>xS ?_;refine A9 (data:=eH.data) ss [((⟨so,sn,st2,sd,sN⟩,sta,stc):WB eH)] ?_;have sI:(ss++[((⟨so,sn,st2,sd,sN⟩,sta,stc):WB eH)]).map (·.1)=ss.map (·.1)++[⟨so,sn,st2,sd,sN⟩]:=nH;generalize ss++[((⟨so,sn,st2,sd,sN⟩,sta,stc):WB eH)]=ss2 at*;refine eR 7 [1] ?_;refine xL [0,1,2,3,4,5,6] ?_;refine xJ (qy G a4 _ c4 q4 U av av) ?_;have hmx:(if(ky:Int)<(aZ (q4.map (·.1)):Nat)then((aZ (q4.map (·.1)):Nat):Int)else(ky:Int))=((max ky (aZ (q4.map (·.1))):Nat):Int):=av;rw[hmx];refine xS ?_;refine eR 10 [0] ?_;refine xL [0,1,2,3,4,5,6,7,8,9] ?_;refine xB ?_ ?_<;>intro h
   ·have h:((max ky (aZ (q4.map (·.1))):Nat):Int)>cap:=by grind
    rw[if_pos h];exact aB4
   ·have h:¬((max ky (aZ (q4.map (·.1))):Nat):Int)>cap:=by grind
    rw[if_neg h];refine xS ?_;refine X.cd (dY (p:=Ui.ok ⟨q4,a4,c4,ss2,a5,c5,fa,fc,fx⟩ ⟨q4.map (·.1),cap,ss.map (·.1)++[⟨so,sn,st2,sd,sN⟩],gu,top,bz,cD,max ky (aZ (q4.map (·.1)))⟩) ⟨U,h9,sI⟩ _) ?_;exact X.fin hb (.tmps U) ⟨_,⟨_,U,U,U⟩,nO uh M _ U ⟨q4,a4,c4,ss2,a5,c5,fa,fc,fx⟩⟩
theorem GX(a2:Option Addr)(n c n2 c2:Nat)(xs ys:Bs)(hn:xs.length=n)(tH:ys.length=n2):
 TR ab G 229 #[.slice a n c,.slice a2 n2 c2] [bV RB 1 a xs,bV RB 1 a2 ys] (cT (.bool (xs==ys))):=by
 refine aW U λb β hb hG=>?_
 exact xR
theorem wc(data:α->Bs)(x:α)(hx:data x=[])(h:X P b β cc k E (dz data [(x,none,0)]::Hs) R):X P b β cc k E Hs R:=
 X.cd (Hs':=dz data [(x,none,0)]::Hs) (λ_ o hs=>⟨fL,o,cR _,cJ _,.refl _,λ_ _ y hy=>by
  rw[bD.1 hy];dsimp only;rw[hx];exact⟨ar _,λ_=>⟨U,U⟩,.inl U⟩,hs⟩) h
theorem Pz(data:α->Bs)(x:α)(a:Option Addr)(c:Nat)(h1:(data x).length<=c)(h2:a=none->(data x).length=0/\c=0)[hf:zI Hs a RB 1 (data x)](h:X P b β cc k E (dz data [(x,a,c)]::Hs) R):X P b β cc k E Hs R:=by
 obtain⟨F,hF⟩:=hf.out
 refine X.cd (il hF λr hr y hy=>?_) h
 grind
structure Mk.ok(m:Mk)(L:Nat):Prop where
 now:m.now.length<=L
 steps:m.steps.length<=L
 used:aZ m.now<=4194304
 cap:m.cap<=4194304
 names:∀f∈m.now,dy f.name=true
theorem Ix(hd:∀f∈l,dy f.name=true)(h:jg l s=some l'):∀f∈l',dy f.name=true:=by
 grind [jg,List.mem_or_eq_of_mem_set,uR,List.mem_of_mem_eraseIdx,wY,qz,rB]
theorem jm{m m':Mk}(h:m.ok L)(e:m.do s=.ok m'):m'.ok (L+1):=by
 unfold Mk.do at e;split at e
 ·cases e
 ·rename_i l hl;split at e
  ·cases e
  ·rename_i h2;cases e;have h3:=ra hl;have h4:=h.now;have h5:=h.steps;have h6:=h.cap;refine⟨by grind,by grind,by grind,h6,Ix h.names hl⟩
theorem Mk.ok.mono{m:Mk}{L':Nat}(h:m.ok L)(hL:L<=L'):m.ok L':=⟨aj h.now hL,aj h.steps hL,h.used,h.cap,h.names⟩
def Mk.ahead(m:Mk)(name data:Bs):Except Int Mk:=
 match m.do ⟨2,name++ia,[],data,0⟩with
 |.error e=>.error e
 |.ok m1=>match m1.do ⟨3,name++ia,[],[],0⟩with
  |.error e=>.error e
  |.ok m2=>m2.do ⟨4,name++ia,name,[],0⟩
theorem oB{m m':Mk}{name data:Bs}(h:m.ok L)(e:m.ahead name data=.ok m'):m'.ok (L+3):=by
 unfold Mk.ahead at e;split at e
 ·cases e
 ·rename_i m1 h1;split at e
  ·cases e
  ·rename_i m2 h2;exact jm (jm (jm h h1) h2) e
theorem y4(L:Nat)(m:Mk)(name data:Bs)(a:Option Addr)(n c:Nat)(hn:data.length=n)(hc:n<=c)(h0:a=none->n=0/\c=0)(hm:m.ok L)(hL:L<=890000000000)(wI:name.length<=100000000)(hd:data.length<=100000000000):
 TR ab G 268 #[au M,ao name,.slice a n c] [uh M m,bV RB 1 a data] (MR eV (m.ahead name data) λm' v B=>v=.tuple #[]/\B=[uh M m']):=by
 subst hn
 refine jr U λb β hb hG=>?_
 unfold Mk.ahead
 refine xJ (Qd G name av) ?_
 refine Pz eH.data ⟨2,name++ia,[],data,0⟩ a c hc h0 ?_
 refine dU hG hb (D' G M m (⟨2,name++ia,[],data,0⟩,a,c) (aj hm.now av) (aj hm.steps av) (by have:=hm.used;grind)) U U U iv (λe he=>⟨e,by rw[he],U,U⟩) ?_
 rintro m1 h1 v B ⟨rfl,rfl⟩
 have py:=jm hm h1
 rw[h1]
 refine xD ?_
 refine wc eH.data ⟨3,name++ia,[],[],0⟩ U ?_
 refine dU hG hb (D' G M m1 (⟨3,name++ia,[],[],0⟩,none,0) (aj py.now av) (aj py.steps av) (by have:=py.used;simp;omega)) U U U iv (λe he=>⟨e,by rw[he],U,U⟩) ?_
 rintro m2 h2 v B ⟨rfl,rfl⟩
 have HU:=jm py h2
 rw[h2]
 refine xD ?_
 refine wc eH.data ⟨4,name++ia,name,[],0⟩ U ?_
 refine dU hG hb (D' G M m2 (⟨4,name++ia,name,[],0⟩,none,0) (aj HU.now av) (aj HU.steps av) (by have:=HU.used;simp;omega)) U U U iv (λe he=>⟨e,by rw[he],U,U⟩) ?_
 rintro m3 h3 v B ⟨rfl,rfl⟩
 rw[h3]
 refine xD ?_
 exact X.fin hb (.tmps U) ⟨_,⟨_,U,U,U⟩,ay⟩
def Mk.v7(m:Mk)(cD:Bs):Except Int (Mk×Bs):=
 match m.ahead (fH 3 (fW 3 (m.now.map (·.name))).1).1 cD with
 |.error e=>.error e
 |.ok m'=>.ok (m',(fH 3 (fW 3 (m.now.map (·.name))).1).1)
theorem qA(n:UInt32):(fH c n).1.length<=1000:=by
 unfold fH;split
 ·rename_i h
  unfold hU
  have h1:=DM n
  have h2:∀c,1<=c/\c<=3->(kH c).length<=100/\(kI c).length<=100:=by
   rintro c ⟨h1,h2⟩;exact Qr
  grind
 ·simp
theorem jT{s:Bs}(h:dy s=true):s.length<=1000:=by
 grind [dy]
theorem al1(L:Nat)(m:Mk)(cD:Bs)(a:Option Addr)(n c:Nat)(hn:cD.length=n)(hc:n<=c)(h0:a=none->n=0/\c=0)(hm:m.ok L)(hL:L<=890000000000)(hd:cD.length<=100000000000):
 TR ab GG 267 #[au M,.slice a n c] [uh M m,bV RB 1 a cD] (MR eV (m.v7 cD) λm' v B=>v=ao m'.2/\B=[uh M m'.1]):=by
 refine aW U λb β hb hG=>?_
 unfold Mk.v7
 have py:=hm.now
 have wI:=hm.names
 refine X.ma uh M U λp=>?_
 obtain⟨q,pa,pc,ss,sa,sc,fa,fc,fx⟩:=p
 dsimp only[ae,ai]at*
 refine lj λhp=>?_
 have kL:=hp.now
 have tK:=hp.nil
 dsimp only at kL tK
 rw[<-kL]at py wI
 rw[aA]at py
 refine xS ?_
 refine ei hG (Sa GG pa _ pc q U av) U U U iv ?_
 rintro v B ⟨a2,c2,rfl,rfl⟩
 dsimp only[ae,ai,ah]
 rw[kL]
 have Fj:(m.now.map (·.name)).length=q.length:=bE
 refine dE a2 (λk:Bs=>[ao k]) (m.now.map (λf:bn=>f.name)) U U (λ_=>rfl) λ_=>xS ?_
 refine vn hG (DP 3 a2 _ c2 (m.now.map (·.name)) U av (λs hs=>by
  grind [jT])) U U U ?_
 have gY:(fW 3 (m.now.map (·.name))).2=0:=by grind [fW]
 rw[gY]
 generalize(fW 3 (m.now.map (·.name))).1=num at*
 refine xJ (yU 3 num) ?_
 have Z4:=qA 3 num
 generalize(fH 3 num).1=nm at*
 refine xS ?_
 refine X.cd (dY hp _) ?_
 refine fi uh M m U ⟨q,pa,pc,ss,sa,sc,fa,fc,fx⟩ ?_
 refine dU hG hb (y4 GG M L m nm cD a n c hn hc h0 hm av av hd) U U U iv (λe he=>⟨e,by rw[he],U,U⟩) ?_
 rintro m1 h1 v B ⟨rfl,rfl⟩
 rw[h1]
 refine xD ?_
 exact bO hb (.tmps U) ⟨_,U,U,U⟩
theorem al2(out:Bs)(f:mj):(BX out f).length<=out.length+6100:=J' out f
theorem w5(b:Bs):(hintOf b).1.length<=50000000000:=by
 unfold hintOf;split
 ·simp
 ·rename_i h
  have hwl:(gD oP b (0,[])).1.2.length<=6100*(gD oP b (0,[])).1.1:=Ac oP (λs=>s.2.length<=6100*s.1) (λs x h=>(Dn s x h).1) _ _ _ _ nH
  grind [gD,Dp,al2]
def Mk.hint(m:Mk)(name clean:Bs):Except Int (Mk×Int):=
 if 0<=iH m.now (eY name).1 then
  if(hintOf clean).2=0/\(rB m.now (iH m.now (eY name).1).toNat).data=(hintOf clean).1 then .ok (m,1)
  else
   let w:=(gq (rB m.now (iH m.now (eY name).1).toNat).data (iC clean)).2
   let v:=if w=1 then 5 else w
   if(hintOf clean).2=0 then(match m.ahead (eY name).1 (hintOf clean).1 with|.error e=>.error e|.ok m'=>.ok (m',v))
   else(match m.do ⟨1,(eY name).1,[],[],0⟩with|.error e=>.error e|.ok m'=>.ok (m',v))
 else if(hintOf clean).2≠0 then .ok (m,0)
 else match m.ahead (eY name).1 (hintOf clean).1 with|.error e=>.error e|.ok m'=>.ok (m',2)
theorem K4(n:UInt32)(h:1<=c/\c<=3):(hU c n).length<=1000:=by
 by_cases hn:n=0
 ·subst hn;exact Qr
 ·have:=qA c n
  grind [fH]
theorem w6(name:Bs):(eY name).1.length<=1000:=by
 grind [eY,K4]
theorem Xo(L:Nat)(m:Mk)(name clean:Bs)(a:Option Addr)(n c:Nat)(hn:clean.length=n)(hc:n<=c)(hm:m.ok L)(hL:L<=880000000000)(wI:name.length<=1000000)(hd:clean.length<=1000000000):
 TR ab GG 269 #[au M,ao name,.slice a n c] [uh M m,bV RB 1 a clean] (MR eV (m.hint name clean) λm' v B=>v=.int .i64 m'.2/\B=[uh M m'.1]):=by
 subst hn
 refine jr U λb β hb hG=>?_
 have N7:=w5 clean
 have tJ:=w6 name
 unfold Mk.hint
 refine xJ (vE name av) ?_
 generalize(eY name).1=nm at*
 refine xS ?_
 refine ei hG (Ia GG a _ c clean U hc hd) U U U iv ?_
 have py:=hm.now
 have hmu:=hm.used
 rintro v B (⟨hz,a9,c9,rfl,rfl⟩|⟨hz,rfl,rfl⟩)
 ·rw[hz];generalize(hintOf clean).1=right at*;generalize(hintOf clean).2=er at*;dsimp only[ae,ai,ah];refine ni a9 λh9 Ml=>?_;refine iE a9 (l:=right) U λ_=>xS ?_;refine X.ma uh M U λp=>?_;obtain⟨q,pa,pc,ss,sa,sc,fa,fc,fx⟩:=p;dsimp only[ae,ai]at*;refine lj λhp=>?_;have kL:=hp.now;have tK:=hp.nil;dsimp only at kL tK;have Z6:q.length<=1000000000000:=bE;refine xJ (vD GG pa _ pc q nm U av) ?_;rw[kL];have ZY:=@qz m.now nm;generalize hI:iH m.now nm=I at*;refine xB ?_ ?_<;>intro h
  ·have h:¬0<=I:=by grind
   rw[if_neg h,if_neg nH];exact bu0
  ·have h:0<=I:=by grind
   rw[if_pos h];have hiq:I.toNat<q.length:=bE;have hold:(rB m.now I.toNat).data=q[I.toNat].1.data:=by grind [DQ]
   have hold2:q[I.toNat].1.data.length<=4194304:=af9;rw[hold];refine oI (data:=bn.data) q q[I.toNat] (aB hiq) λjz mD=>xS ?_;refine cH U U U U av hiq U λbl o=>?_;generalize q[I.toNat]=x at*;refine xS ?_;refine uo U U U 1 U U  ?_;refine xJ (GX GG x.2.1 a9 _ x.2.2 _ c9 x.1.data right U U) ?_;refine xB ?_ ?_<;>intro h2
   ·have h2:x.1.data=right:=by grind
    rw[if_pos ⟨U,h2⟩];refine xS ?_;exact aI4
   ·have h2:¬x.1.data=right:=by grind
    rw[if_neg bE,if_pos U];refine xJ (Dh GG a _ c clean U hc av) ?_;refine ei hG (Ad GG x.2.1 _ x.2.2 x.1.data (iC clean) U jz av) U U U iv ?_;generalize gq x.1.data (iC clean)=W;rintro v B (⟨hw,a5,c5,rfl,rfl⟩|⟨hw,rfl,rfl⟩)
    ·rw[hw,if_pos U];refine xD ?_;exact bj7
    ·rw[if_neg hw];refine xD ?_;refine xB ?_ ?_<;>intro h5
     ·exact absurd bE hw
     exact bu0
 ·generalize(hintOf clean).1=right at*;generalize(hintOf clean).2=er at*;refine xD ?_;refine X.ma uh M U λp=>?_;obtain⟨q,pa,pc,ss,sa,sc,fa,fc,fx⟩:=p;dsimp only[ae,ai]at*;refine lj λhp=>?_;have kL:=hp.now;have tK:=hp.nil;dsimp only at kL tK;have Z6:q.length<=1000000000000:=bE;refine xJ (vD GG pa _ pc q nm U av) ?_;rw[kL];have ZY:=@qz m.now nm;generalize hI:iH m.now nm=I at*;refine xB ?_ ?_<;>intro h
  ·have h:¬0<=I:=by grind
   rw[if_neg h,if_pos hz];refine xS ?_;refine aM 34 true U (by simp[hz]) (xS ?_);exact aI4
  ·have h:0<=I:=by grind
   rw[if_pos h];have hiq:I.toNat<q.length:=bE;have hold:(rB m.now I.toNat).data=q[I.toNat].1.data:=by grind [DQ]
   have hold2:q[I.toNat].1.data.length<=4194304:=af9;rw[hold];refine oI (data:=bn.data) q q[I.toNat] (aB hiq) λjz mD=>xS ?_;refine cH U U U U av hiq U λbl o=>?_;generalize q[I.toNat]=x at*;refine xS ?_;refine uo U U U 1 U U (xS ?_);refine aM 49 false U (by simp[hz]) (xS ?_);rw[if_neg av,if_neg hz];refine xJ (Dh GG a _ c clean U hc av) ?_;refine ei hG (Ad GG x.2.1 _ x.2.2 x.1.data (iC clean) U jz av) U U U iv ?_;generalize gq x.1.data (iC clean)=W;rintro v B (⟨hw,a5,c5,rfl,rfl⟩|⟨hw,rfl,rfl⟩)
   ·rw[hw,if_pos U];refine xD ?_;exact bx9
   ·rw[if_neg hw];refine xD ?_;refine xB ?_ ?_<;>intro h5
    ·exact absurd bE hw
    refine xS ?_;exact bx9
end
section
variable{cc:Option (Array Oper×List Oper)}{m m':Mk}{R:Ending->List az->Prop}{z:Mk×Int}{L:Nat}{nm j:Bs}{f:bn}{Hs:List az}{E:Env}{α:Type}{β:bS}{k:Kt}(a:Option Addr)(c:Nat)(x:WB bn)(w:World)(b:Bs)(l:List Ext)(i:Nat)(G:bZ)(so:Int)(D:Nat)(s:be)(st:WB eH)
def jU(l:List Ext):Int:=(l.map (·.len)).sum
theorem w7(m:List Ext):jU (l++m)=jU l+jU m:=by simp[jU]
def y5(n:Int)(x:Ext):Prop:=0<=x.at_/\0<=x.len/\x.at_+x.len<=n
theorem Ea{n a t:Int}{l:List Ext}(h0:0<=a)(Jd:a<=t)(ht:t<=n)(hl:jU l=a)(hi:∀x∈l,y5 n x):jU (mb a l t)=t/\∀x∈mb a l t,y5 n x:=by
 unfold mb
 split
 ·rename_i h
  refine⟨by rw[w7,hl];grind [jU],λx hx=>?_⟩
  rcases cM.1 hx with h2|h2
  ·grind
  ·rw[bD.1 h2];exact⟨h0,by grind,by grind⟩
 grind
theorem Qj(b:Bs):∀(f at_:Nat) (s:Int×List Ext),s.1<=at_->0<=s.1->s.1<=b.length->jU s.2=s.1->(∀x∈s.2,y5 b.length x)->
 0<=((kW f b at_).foldl ke s).1/\((kW f b at_).foldl ke s).1<=b.length/\jU ((kW f b at_).foldl ke s).2=((kW f b at_).foldl ke s).1/\∀x∈((kW f b at_).foldl ke s).2,y5 b.length x
 |0,at_,s,h1,h2,h3,h4,h5=>⟨h2,h3,h4,h5⟩
 |f+1,at_,s,h1,h2,h3,h4,h5=>by
  unfold kW
  have h:=pY b at_
  split
  ·grind
  ·rename_i h0;rw[cY];have h6:(at_:Int)<=(eJ b at_).2.1/\9<=(eJ b at_).2.2/\(eJ b at_).2.1+(eJ b at_).2.2<=b.length:=by
    omega
   have hj:=Ea (n:=b.length) (a:=s.1) (t:=(eJ b at_).2.1) (l:=s.2) h2 av av h4 h5;refine Qj b f _ _ ?_ ?_ ?_ ?_ ?_
   ·exact bD0
   ·show 0<=(eJ b at_).2.1+(eJ b at_).2.2;omega
   ·exact bD0
   ·show jU (mb s.1 s.2 (eJ b at_).2.1++[⟨false,(eJ b at_).2.1,(eJ b at_).2.2⟩])=(eJ b at_).2.1+(eJ b at_).2.2;rw[w7,hj.1];simp[jU]
   ·intro x hx
    rcases cM.1 hx with h7|h7
    ·grind
    ·rw[bD.1 h7];exact⟨by grind,by grind,h6.2.2⟩
theorem oF:jU (cx b)=b.length/\∀x∈cx b,y5 b.length x:=by
 have h:=Qj b (b.length+1) 0 (0,[]) nH nH nH U nH;exact Ea h.1 h.2.1 (Int.le_refl _) h.2.2.1 h.2.2.2
def sX(b:Bs)(x:Ext):Bs:=(b.drop x.at_.toNat).take x.len.toNat
def K5(b:Bs)(l:List Ext):Bs:=l.flatMap λx=>if x.cD then[]else sX b x
def Cv(b:Bs)(l:List Ext):Bs:=l.flatMap λx=>if x.cD then sX b x else[]
def nJ(l:List Ext):Nat:=(l.filter (·.cD)).length
def nF(l:List Ext):Nat:=(l.filter (!·.cD)).length
theorem w8{b:Bs}{x:Ext}(h:y5 b.length x):(sX b x).length=x.len.toNat:=by
 unfold sX;obtain⟨h1,h2,h3⟩:=h
 grind
theorem y6(b:Bs):∀l:List Ext,(∀x∈l,y5 b.length x)->((K5 b l).length:Int)+(Cv b l).length=jU l
 |[],_=>rfl
 |x::r,h=>by
  have ih:=y6 b r λy hy=>h y U8;have hx:=w8 (h x nH);have mD:=(h x nH).2.1;unfold K5 Cv jU at*;simp only[eQ,aG,aK,eC];split<;>simp only[aR]<;>omega
theorem K6(h:∀x∈l,y5 b.length x)(i:Nat):jU (l.take i)<=jU l:=by
 have h1:jU l=jU (l.take i)+jU (l.drop i):=by rw[<-w7,cP]
 have h2:∀m:List Ext,(∀x∈m,y5 b.length x)->0<=jU m:=by
  intro m;induction m with
  |nil=>intro _;exact Int.le_refl _
  |cons x r ih=>
   intro hm
   have:=ih λy hy=>hm y U8
   have:=(hm x nH).2.1
   grind [jU]
 grind
theorem Xp(h:i<l.length):K5 b (l.take (i+1))=K5 b (l.take i)++(if l[i].cD then[]else sX b l[i]):=by
 grind [aY,K5]
theorem Xq(h:i<l.length):Cv b (l.take (i+1))=Cv b (l.take i)++(if l[i].cD then sX b l[i]else[]):=by
 grind [aY,Cv]
theorem al3(h:i<l.length):nJ (l.take (i+1))=nJ (l.take i)+(if l[i].cD then 1 else 0):=by
 grind [aY,nJ]
theorem al4(h:i<l.length):nF (l.take (i+1))=nF (l.take i)+(if l[i].cD then 0 else 1):=by
 grind [aY,nF]
theorem bm1:nJ l<=l.length:=dD _ _
theorem aH5:nF l<=l.length:=dD _ _
def Xr(l:List Ext):Bool:=match l[l.length - 1]? with|some x=>x.cD|none=>false
def al5(a b:UInt64):UInt64:=if a.toNat<b.toNat then b else a
def y7(t:UInt64)(l:List rI):UInt64:=l.foldl (λt x=>al5 t x.f.kG.eB) t
def Mk.od(m:Mk)(f:bn):Except Int Mk:=
 let ex:=cx f.data
 if 0<nJ ex then
  match Mk.v7 {m with bz:=m.bz+nF ex,cD:=m.cD+(Cv f.data ex).length} (Cv f.data ex)with
  |.error e=>.error e
  |.ok m2=>if nJ ex=1/\Xr ex=true then m2.1.do ⟨5,f.name,[],[],(K5 f.data ex).length⟩else m2.1.ahead f.name (K5 f.data ex)
 else .ok {m with bz:=m.bz+nF ex,cD:=m.cD+(Cv f.data ex).length}
def Mk.clean(m:Mk)(f:bn):Except Int Mk:=
 match m.od f with
 |.error e=>.error e
 |.ok m2=>match m2.hint f.name (K5 f.data (cx f.data))with
  |.error e=>.error e
  |.ok m3=>.ok {m3.1 with top:=y7 m3.1.top (fV f.data [])}
theorem x8{cD:Bs}{z:Mk×Bs}(h:m.ok L)(e:m.v7 cD=.ok z):z.1.ok (L+3):=by
 unfold Mk.v7 at e
 grind [oB]
theorem HE{b:Bs}(h:m.ok L)(e:m.hint nm b=.ok z):z.1.ok (L+3):=by
 unfold Mk.hint at e;split at e
 ·split at e
  ·exact aJ5
  ·dsimp only at e
   split at e
   ·grind [oB]
   ·split at e
    ·cases e
    ·rename_i m1 h1;cases e;exact(jm h h1).mono av
 ·split at e
  ·exact aJ5
  grind [oB]
theorem um(h:m.ok L)(e:m.od f=.ok m'):m'.ok (L+6):=by
 unfold Mk.od at e;dsimp only at e;have h2:Mk.ok {m with bz:=m.bz+nF (cx f.data),cD:=m.cD+(Cv f.data (cx f.data)).length} L:=⟨h.now,h.steps,h.used,h.cap,h.names⟩;split at e
 ·split at e
  ·cases e
  ·rename_i m2 h1
   have h3:=x8 h2 h1
   split at e
   ·exact(jm h3 e).mono av
   grind [oB]
 ·cases e;exact h2.mono av
theorem wj(h:m.ok L)(e:m.clean f=.ok m'):m'.ok (L+9):=by
 unfold Mk.clean at e;split at e
 ·cases e
 ·rename_i m2 h2;split at e
  ·cases e
  ·rename_i m3 h3;cases e;have h4:=HE (um h h2) h3;exact⟨h4.now,h4.steps,h4.used,h4.cap,h4.names⟩
theorem Oa(t:UInt64)(l:List rI)(i:Nat)(h:i<l.length):y7 t (l.take (i+1))=al5 (y7 t (l.take i)) l[i].f.kG.eB:=by
 grind [aY,y7]
theorem Xt(M L:Nat)(m:Mk)(x:WB bn)(hm:m.ok L)(hL:L<=870000000000)(wI:x.1.name.length<=1000)(hd:x.1.data.length<=4194304)(gY:m.bz<=1000000000000000000)(hju:m.cD<=1000000000000000000):
 TR ab GG 171 #[au M,.agg (bG x).toArray] [uh M m,dz bn.data [x]] (MR eV (m.clean x.1) λm' v B=>(∃nm ea en ec bad hv,v=.agg #[ao nm,.int .i64 1,.slice ea en ec,ao bad,.int .i64 hv])/\B=[uh M m']):=by
 refine aW U λb β hb hG=>?_
 obtain⟨⟨name,data⟩,xa,xc⟩:=x
 dsimp only at wI hd
 refine oI (data:=bn.data) [((⟨name,data⟩,xa,xc):WB bn)] ((⟨name,data⟩,xa,xc):WB bn) (bD.2 U) λjz mD=>?_
 dsimp only at jz mD ⊢
 obtain⟨gE,fw⟩:=oF data
 have ue:m.od ⟨name,data⟩=if 0<nJ (cx data)then
  (match Mk.v7 {m with bz:=m.bz+nF (cx data),cD:=m.cD+(Cv data (cx data)).length} (Cv data (cx data))with
  |.error e=>.error e
  |.ok m2=>if nJ (cx data)=1/\Xr (cx data)=true then m2.1.do ⟨5,name,[],[],(K5 data (cx data)).length⟩else m2.1.ahead name (K5 data (cx data)))
  else .ok {m with bz:=m.bz+nF (cx data),cD:=m.cD+(Cv data (cx data)).length}:=U
 have wm:m.clean ⟨name,data⟩=(match m.od ⟨name,data⟩with
  |.error e=>.error e
  |.ok m2=>match m2.hint name (K5 data (cx data))with
   |.error e=>.error e
   |.ok m3=>.ok {m3.1 with top:=y7 m3.1.top (fV data [])}):=U
 have hexl:(cx data).length<=2*data.length+1:=by
  have h1:=sP (rT (lq data)).1 (rT (lq data)).2 data.length;have h2:=yG (lq data);have h3:=lS data;unfold cx;omega
 generalize m.clean ⟨name,data⟩=res at*
 refine xP ?_
 intro b3
 refine jC U U λb4=>?_
 refine X.ma uh M U λp=>?_
 obtain⟨q,pa,pc,ss,sa,sc,fa,fc,fx⟩:=p
 dsimp only[ae,ai]at*
 refine lj λhp=>xS ?_
 refine tU [0,3,4,5] [9] (ι:=Nat×Option Addr×Nat) (λz q_=>(6,au z.1)::q_) (λz q_=>bx z.1 270 [ao name,.int .i64 1,.slice z.2.1 (cx data).length z.2.2,ao [],.int .i64 0]::bV (bp Ext.cs) 3 z.2.1 (cx data)::q_) ?fin ?main
 case main=>
  intro KK dW;refine eR 4 [7] ?_;refine xL [0,1,2,3] ?_;refine dA U U U U U ?_ ?_
  ·refine xS ?_;refine ei hG (Dk GG xa _ xc data U jz av) U U U iv ?_;rintro v B ⟨ea,ec,rfl,rfl⟩;dsimp only[ae,ai,ah];refine dE ea Ext.cs (cx data) U U (λ_=>rfl) λ_=>xS ?_;refine dA U U U U U ?_ ?_
   ·refine xA ?_;intro b6;exact X.W (dW (b6,ea,ec))
   ·refine xA ?_;intro b6;exact X.W (dW (b6,ea,ec))
  ·refine xA ?_;intro b6;refine ei hG (Dk GG xa _ xc data U jz av) U U U iv ?_;rintro v B ⟨ea,ec,rfl,rfl⟩;dsimp only[ae,ai,ah];refine dE ea Ext.cs (cx data) U U (λ_=>rfl) λ_=>xS ?_;exact X.W (dW (b6,ea,ec))
 case fin=>
  rintro⟨b6,ea,ec⟩;dsimp only;have Iy:=hm;obtain⟨now,cap,steps,gu,top,bz,cD,ky⟩:=m;dsimp only[Mk.cs]at gY hju ue hp ⊢;have hsplit:True:=trivial;generalize hexs:cx data=ex at*;refine xS ?_;refine X.cd (ej 5 1 _) ?_;refine X.cd (ej 5 1 _) ?_;refine X.loop (ι:={z:Nat×(Option Addr×Nat)×(Option Addr×Nat) // z.1<=ex.length}) (λz=>([(0,au M),(3,au b3),(4,au b4),(5,.pointer (some ⟨M,0+2+1,none⟩)),(6,au b6),(7,.slice z.1.2.1.1 (K5 data (ex.take z.1.1)).length z.1.2.1.2),(8,.slice z.1.2.2.1 (Cv data (ex.take z.1.1)).length z.1.2.2.2),(9,.int .i64 (nJ (ex.take z.1.1):Nat)),(26,.slice ea ex.length ec),(27,aX ex.length),(28,aX z.1.1)],
   [own 5 1 z.1.2.1.1 (K5 data (ex.take z.1.1)).length z.1.2.1.2 ((K5 data (ex.take z.1.1)).map fO),own 5 1 z.1.2.2.1 (Cv data (ex.take z.1.1)).length z.1.2.2.2 ((Cv data (ex.take z.1.1)).map fO),bx b6 270 [ao name,.int .i64 1,.slice ea ex.length ec,ao [],.int .i64 0],bV (bp Ext.cs) 3 ea ex,bx b4 270 [ao [],.int .i64 0,.slice none 0 0,ao [],.int .i64 0],bx b3 70 [ao name,.slice xa data.length xc],bV RB 1 xa data,bx M 258 [.slice pa q.length pc,.int .i64 cap,.slice sa ss.length sc,.slice fa gu fc,.int .u64 top.toNat,.int .i64 (bz+nF (ex.take z.1.1):Nat),.int .i64 cD,.int .i64 ky],bV (bp bG) 2 pa q,dz bn.data q,own 266 5 sa ss.length sc (ss.flatMap db),dz eH.data ss,own 270 5 fa gu fc fx])) (λz=>ex.length - z.1.1)
   ⟨(0,(none,0),(none,0)),al _⟩ (Sub.of U) (by
    dsimp only;rw[ik];exact(show aN _ [own 5 1 none 0 0 [],own 5 1 none 0 0 [],bx b6 270 [ao name,.int .i64 1,.slice ea ex.length ec,ao [],.int .i64 0],bV (bp Ext.cs) 3 ea ex,bx b4 270 [ao [],.int .i64 0,.slice none 0 0,ao [],.int .i64 0],bx b3 70 [ao name,.slice xa data.length xc],bV RB 1 xa data,bx M 258 [.slice pa q.length pc,.int .i64 cap,.slice sa ss.length sc,.slice fa gu fc,.int .u64 top.toNat,.int .i64 bz,.int .i64 cD,.int .i64 ky],bV (bp bG) 2 pa q,dz bn.data q,own 266 5 sa ss.length sc (ss.flatMap db),dz eH.data ss,own 270 5 fa gu fc fx]from ay)) ?_
  rintro⟨⟨i,⟨a7,c7⟩,⟨a8,c8⟩⟩,hi⟩ ih;dsimp only at hi ⊢;have Fh:=y6 data (ex.take i) λy hy=>fw y (List.mem_of_mem_take hy);have hbt:=K6 data ex fw i;have hjl:=bm1 (ex.take i);have pN:=aH5 (ex.take i);rw[cB]at hjl pN;refine xB ?_ ?_<;>intro h
  ·have hi:i<ex.length:=by simp at h;omega
   have t1:=Xp data ex i hi;have t2:=Xq data ex i hi;have t3:=al3 ex i hi;have t4:=al4 ex i hi;obtain⟨k1,k2,k3⟩:=fw _ (aB hi);have k4:=w8 (fw _ (aB hi));refine xS ?_;refine cH U U U U U hi U λbl o=>?_;generalize ex[i]=y at*;refine xS ?_;refine dF U U U U  ?_;refine xA ?_;intro wu;refine nI (xs:=data) (l:=y.at_.toNat) (h:=y.at_.toNat+y.len.toNat) U U U U (Bd.at U (show y.at_=(y.at_.toNat:Int) by omega)) (Bd.at U (show y.at_+y.len=((y.at_.toNat+y.len.toNat:Nat):Int) by omega)) av av av λa12 c12 hc12=>?_;have e12:y.at_.toNat+y.len.toNat - y.at_.toNat=y.len.toNat:=av;rw[e12];rw[e12]at hc12;have aI0:(data.drop y.at_.toNat).take y.len.toNat=sX data y:=U;rw[aI0];have hcl2:(sX data y).length<=4194304:=av;rw[<-k4];generalize sX data y=bits at*;have Sj:bits.length=bits.length:=U;generalize K5 data (ex.take i)=fr at*;generalize Cv data (ex.take i)=ju at*;refine xS ?_;cases hyj:y.cD with
   |false=>
    simp only[hyj,bY,if_false,ah,Nat.add_zero]at t1 t2 t3 t4;refine aM 44 true U (by simp[hyj]) (xS ?_);refine iw U U U U Sj av λa9 c9=>xS ?_;have e9:((bz+nF (ex.take i):Nat):Int)+1=((bz+nF (ex.take (i+1)):Nat):Int):=av;rw[e9];refine xS ?_;refine X.less (ih ⟨(i+1,(a9,c9),(a8,c8)),by dsimp only;omega⟩ gm) ?_ ?_
    ·dsimp only;rw[t1,t2,t3];exact(Sub.cons U (ad8 U U U U U U U U U (eN U pH)))
    ·dsimp only;rw[t1,t2];exact ay
   |true=>
    simp only[hyj,if_true,ah,Nat.add_zero]at t1 t2 t3 t4;refine aM 44 false U (by simp[hyj]) (xS ?_);refine iw U U U U Sj av λa9 c9=>xS ?_;refine X.less (ih ⟨(i+1,(a7,c7),(a9,c9)),by dsimp only;omega⟩ gm) ?_ ?_
    ·dsimp only;rw[t1,t2,t3];exact(Sub.cons U (ad8 U U U U U U (eN U nH) U U (eN U pH)))
    ·dsimp only;rw[t1,t2,t4];exact ay
  ·have hin2:i=ex.length:=by simp at h;omega
   subst hin2
   rw[bh]at Fh hjl pN ⊢
   have hfrl:(K5 data ex).length<=4194304:=av
   have hjul:(Cv data ex).length<=4194304:=av
   have N7:=aj (Ay data) hd
   have Wo:nJ ex=1->0<ex.length:=av
   unfold Xr at ue
   generalize K5 data ex=fr at*
   generalize Cv data ex=ju at*
   refine xS ?_
   refine ni a7 λh71 h72=>?_
   refine iE a7 (l:=fr) U λ_=>?_
   refine ni a8 λh81 h82=>?_
   refine iE a8 (l:=ju) U λ_=>?_
   have ejk:(cD:Int)+(ju.length:Int)=((cD+ju.length:Nat):Int):=av
   rw[ejk]
   refine xS ?_
   refine tU [0,3,4,5,6,7] [0,1,1,1,4,4,4,4,4] (ι:={z:Mk×Bs // Mk.od ⟨now,cap,steps,gu,top,bz,cD,ky⟩ ⟨name,data⟩=.ok z.1}) (λz q_=>q_) (λz q_=>uh M z.1.1::bx b6 270 [ao name,.int .i64 1,.slice ea ex.length ec,ao z.1.2,.int .i64 0]::q_) ?J0 ?main2
   case main2=>
    intro KK dW;refine xB ?_ ?_<;>intro hj
    ·have hj:0<nJ ex:=by simpa using hj
     rw[if_pos hj]at ue;refine xS ?_;refine X.cd (dY (p:=Ui.ok ⟨q,pa,pc,ss,sa,sc,fa,fc,fx⟩ ⟨now,cap,steps,gu,top,bz+nF ex,cD+ju.length,ky⟩) ⟨hp.now,hp.nil,hp.steps⟩ _) ?_;refine fi uh M ⟨now,cap,steps,gu,top,bz+nF ex,cD+ju.length,ky⟩ U ⟨q,pa,pc,ss,sa,sc,fa,fc,fx⟩ ?_;have al6:Mk.ok ⟨now,cap,steps,gu,top,bz+nF ex,cD+ju.length,ky⟩ L:=⟨Iy.now,Iy.steps,Iy.used,Iy.cap,Iy.names⟩;refine dU hG hb (al1 M L _ ju a8 _ c8 U h82 h81 al6 av av) U U U iv (λe he=>⟨e,by rw[wm,ue,he],U,U⟩) ?_;rintro⟨m2,nm2⟩ h2 v B ⟨rfl,rfl⟩;have Xu:=x8 al6 h2;rw[h2]at ue;dsimp only at ue Xu ⊢;refine xD ?_;by_cases jD:nJ ex=1
     ·refine aM 78 true U (by simp[jD]) (xS ?_);have hl0:=Wo jD;refine cH (j:=ex.length - 1) U U U U av av U λbl o=>?_;rw[aV (show ex.length - 1<ex.length by omega)]at ue;generalize ex[ex.length - 1]=y at*;refine xB ?_ ?_<;>intro hlj
      ·rw[if_pos ⟨jD,hlj⟩]at ue;refine xS ?_;refine wc eH.data ⟨5,name,[],[],fr.length⟩ U ?_;refine dU hG hb (D' GG M m2 (⟨5,name,[],[],fr.length⟩,none,0) (aj Xu.now av) (aj Xu.steps av) (by have:=Xu.used;simp;omega)) U U U iv (λe he=>⟨e,by rw[wm,ue,he],U,U⟩) ?_;rintro m3 h3 v B ⟨rfl,rfl⟩;rw[h3]at ue;refine xD ?_;exact X.W (dW ⟨(m3,nm2),ue⟩)
      ·have hlj:y.cD=false:=by simpa using hlj
       rw[if_neg (by rintro⟨_,h5⟩;have h5:y.cD=true:=h5;rw[hlj]at h5;cases h5)]at ue;exact bC1
     ·refine aM 78 false U bB ?_;rw[if_neg (by rintro⟨h5,_⟩;exact jD h5)]at ue;exact bC1
    ·have hj:¬0<nJ ex:=by simpa using hj
     rw[if_neg hj]at ue;refine xS ?_;refine X.cd (dY (p:=Ui.ok ⟨q,pa,pc,ss,sa,sc,fa,fc,fx⟩ ⟨now,cap,steps,gu,top,bz+nF ex,cD+ju.length,ky⟩) ⟨hp.now,hp.nil,hp.steps⟩ _) ?_;refine fi uh M ⟨now,cap,steps,gu,top,bz+nF ex,cD+ju.length,ky⟩ U ⟨q,pa,pc,ss,sa,sc,fa,fc,fx⟩ ?_;exact X.W (dW ⟨(_,[]),ue⟩)
   case J0=>
    rintro⟨⟨m2,bad⟩,h2⟩;dsimp only at h2 ⊢;have al6:=um Iy h2;rw[h2]at wm;dsimp only at wm;refine xS ?_;refine dU hG hb (Xo M (L+6) m2 name fr a7 _ c7 U h72 al6 av av av) U U U iv (λe he=>⟨e,by rw[wm,he],U,U⟩) ?_;rintro⟨m3,hv⟩ h3 v B ⟨rfl,rfl⟩;rw[h3]at wm;dsimp only at wm ⊢;refine xD ?_;refine jl Int RK 1 ?_;refine ei hG (wN GG xa _ xc data none 0 0 [] U jz av U de) U U U iv ?_;rintro v B ⟨a17,c17,rfl,rfl⟩;dsimp only[ae,ai,ah];generalize fV data []=rs at*;refine dE a17 rI.cs rs U U (λ_=>rfl) λhc17=>?_;refine X.ma uh M U λp=>?_;obtain⟨q,pa,pc,ss,sa,sc,fa,fc,fx⟩:=p;obtain⟨now,cap,steps,gu,top,bz,cD,ky⟩:=m3;dsimp only[ae,ai,Mk.cs]at*;refine lj λhp=>xS ?_;refine X.loop (ι:={j:Nat // j<=rs.length}) (λj=>([(4,au b4),(5,.pointer (some ⟨M,0+2+1,none⟩)),(6,au b6),(109,.slice a17 rs.length c17),(110,aX rs.length),(111,aX j.1)],[bx M 258 [.slice pa q.length pc,.int .i64 cap,.slice sa ss.length sc,.slice fa gu fc,.int .u64 (y7 top (rs.take j.1)).toNat,.int .i64 bz,.int .i64 cD,.int .i64 ky],bV (bp bG) 2 pa q,dz bn.data q,own 266 5 sa ss.length sc (ss.flatMap db),dz eH.data ss,own 270 5 fa gu fc fx,bV (bp rI.cs) 16 a17 rs,bx b6 270 [ao name,.int .i64 1,.slice ea ex.length ec,ao bad,.int .i64 hv],bx b4 270 [ao [],.int .i64 0,.slice none 0 0,ao [],.int .i64 0]])) (λj=>rs.length - j.1) ⟨0,al _⟩ (Sub.of U) (by dsimp only;rw[show y7 top (rs.take 0)=top from rfl];exact ay) ?_;rintro⟨j,hj⟩ pG;dsimp only;refine xB ?_ ?_<;>intro h5
    ·have hj:j<rs.length:=by simp at h5;omega
     have htj:=Oa top rs j hj;refine xS ?_;refine cH U U U U U hj U λVM o2=>?_;generalize rs[j]=y at*;generalize y7 top (rs.take j)=t1 at*;refine xS ?_;refine dF U U U U  ?_;refine xA ?_;intro K7;refine fM (uC [0,1,2,3,4,5,6,7,8]) [bx M 258 [.slice pa q.length pc,.int .i64 cap,.slice sa ss.length sc,.slice fa gu fc,.int .u64 t1.toNat,.int .i64 bz,.int .i64 cD,.int .i64 ky],bx K7 365 (rI.cs y)] U ?_;refine xL [0,1,2,3,4,5,6,7,8] ?_;refine xS ?_;have hmx:(if(t1.toNat:Int)<(y.f.kG.eB.toNat:Int)then(y.f.kG.eB.toNat:Int)else(t1.toNat:Int))=((al5 t1 y.f.kG.eB).toNat:Int):=by
      unfold al5;split<;>split<;>omega
     rw[hmx,<-htj];refine xS ?_;exact a18
    ·have Mp:j=rs.length:=by simp at h5;omega
     subst Mp;rw[bh];refine xS ?_;refine X.cd (dY (p:=Ui.ok ⟨q,pa,pc,ss,sa,sc,fa,fc,fx⟩ ⟨now,cap,steps,gu,y7 top rs,bz,cD,ky⟩) ⟨hp.now,hp.nil,hp.steps⟩ _) ?_;exact X.ret hb (.gX U iA .nil) ⟨_,⟨_,wm,⟨name,ea,_,ec,bad,hv,U⟩,U⟩,nO uh M _ U ⟨q,pa,pc,ss,sa,sc,fa,fc,fx⟩⟩
theorem K8{c₀:Frame}{u:FrameMode}(h:c₀.mode=u):({c₀ with mode:=u}:Frame)=c₀:=by cases c₀;simp_all
theorem SF(a b:Addr):CallsD ab 167 #[.pointer (some a),.pointer (some b)] .returning w λe u' w'=>u'=.returning/\(∃v,e=.returned v)/\w'=w:=by
 have h1:∀w:World,(binOp BinOp.eql 20 .nilIface .nilIface).run ab w=.ok (.bool true) w:=λ_=>by kernel_rfl
 refine callsD_of_wpS Tryz.func167 U λc₀ cs hu=>?_;apply wpS_seq;apply wpS_region;simp[wpOpsS,go_sem,recoverD,hu,Tryz.ntmps167,Exit.thenS];refine wpS_of_wp (wp_block ?_);apply wp_seq;apply wp_region;simp[go_sem];simp[wpOps,go_sem,h1,eqGuard,Exit.then];refine .inl (wp_cond_true bi0 ?_);apply wp_region;simp[wpOps,go_sem,Exit.inBlock,bodyPostS];exact .inl ⟨(K8 hu).symm,⟨_,by simp[results];rfl⟩⟩
theorem SG(β:bS)(w:World)(x y:Nat)(e:Int)(hs:Sat β [bx x 183 [.slice none 0 0,.slice none 0 0,.int .u64 0,.int .i64 0,.int .i64 0,.int .i64 0],bx y 23 [.int .i64 0]] w):
 CallsD ab 167 #[au x,au y] (.panicking [pe (.iface 23 (.int .i64 e))]) w λen u' w'=>u'=.panicking [{v:=.iface 23 (.int .i64 e),recovered:=true}]/\(∃v,en=.returned v)/\Sat β [bx y 23 [.int .i64 e],bx x 183 [.slice none 0 0,.slice none 0 0,.int .u64 0,.int .i64 0,.int .i64 0,.int .i64 0]] w':=by
 have h1:∀w:World,(binOp BinOp.eql 20 (.iface 23 (.int .i64 e)) .nilIface).run ab w=.ok (.bool false) w:=λ_=>by kernel_rfl
 have h2:∀w:World,(Instr.typeAssert (.iface 23 (.int .i64 e)) 20 23 true).run ab w=.ok (.tuple #[.int .i64 e,.bool true]) w:=λ_=>by kernel_rfl
 have h3:∀w:World,(Instr.build 183 #[]).run ab w=.ok (.agg #[.slice none 0 0,.slice none 0 0,.int .u64 0,.int .i64 0,.int .i64 0,.int .i64 0]) w:=λ_=>by kernel_rfl
 obtain⟨w1,Rn,Bi⟩:=hs.store (P:=ab) (t:=183) (i:=0) (aN.refl _) (v:=.agg #[.slice none 0 0,.slice none 0 0,.int .u64 0,.int .i64 0,.int .i64 0,.int .i64 0]) U U U U
 obtain⟨w2,Ob,ug⟩:=Bi.store (P:=ab) (t:=23) (b:=y) (i:=0) (v:=.int .i64 e) (cQ _ _ _) U U U U
 refine callsD_of_wpS Tryz.func167 U λc₀ cs hu=>?_
 apply wpS_seq
 apply wpS_region
 simp[wpOpsS,go_sem,recoverD,hu,Tryz.ntmps167,Exit.thenS,pe]
 refine wpS_of_wp (wp_block ?_)
 apply wp_seq
 apply wp_region
 simp[go_sem]
 simp[wpOps,go_sem,h1,eqGuard,Exit.then]
 refine .inl (wp_cond_false bi0 ?_)
 apply wp_seq
 apply wp_region
 simp[go_sem]
 simp[wpOps,go_sem,h2,Oper.upon,execOp]
 refine .inl (.inl (.inl (wp_cond_true bi0 ?_)))
 apply wp_seq
 apply wp_region
 simp[go_sem]
 simp[wpOps,go_sem,Oper.upon,execOp,Exit.then]
 refine .inl ?_
 apply wp_region
 simp[go_sem]
 simp[wpOps,Region.wanted,Act.eval,Act.put,execOp,Oper.wp,Oper.upon,h3,Rn,Ob]
 refine .inl (.inl (.inl ?_))
 simp[Exit.inBlock,bodyPostS]
 exact .inl ⟨⟨_,by simp[results];rfl⟩,ug⟩
@[reducible] def z183:List Value:=[.slice none 0 0,.slice none 0 0,.int .u64 0,.int .i64 0,.int .i64 0,.int .i64 0]
theorem Xx(x y:Nat)(A:List az):TD0 ab G 167 #[au x,au y] A A:=λβ w _ hs=>
 (SF w _ _).mono λe u' w' ⟨h1,h2,h3⟩=>⟨h1,h2,h3▸hs⟩
theorem K9(x y:Nat)(e:Int):TP ab G 167 #[au x,au y] (eV e) [bx x 183 z183,bx y 23 [.int .i64 0]] [bx y 23 [.int .i64 e],bx x 183 z183]:=λβ w _ hs=>
 SG β w x y e hs
structure Mk.le(m m':Mk)(d:Nat):Prop where
 bz:m'.bz<=m.bz+d
 cD:m'.cD<=m.cD+d
 gu:m'.gu=m.gu
theorem nj{s:eH}(e:m.do s=.ok m'):m.le m' 0:=by
 unfold Mk.do at e;split at e
 ·cases e
 ·split at e
  ·cases e
  ·cases e;exact⟨ar _,ar _,U⟩
theorem Mk.le.trans{a b c:Mk}{d e:Nat}(h:a.le b d)(k:b.le c e):a.le c (d+e):=⟨by have:=h.bz;have:=k.bz;omega,by have:=h.cD;have:=k.cD;omega,k.gu.trans h.gu⟩
theorem uu{d:Bs}(e:m.ahead nm d=.ok m'):m.le m' 0:=by
 unfold Mk.ahead at e;split at e
 ·cases e
 ·rename_i m1 h1;split at e
  ·cases e
  ·rename_i m2 h2;exact((nj h1).trans (nj h2)).trans (nj e)
theorem MW{z:Mk×Bs}(e:m.v7 j=.ok z):m.le z.1 0:=by
 unfold Mk.v7 at e
 grind [uu]
theorem MI{b:Bs}(e:m.hint nm b=.ok z):m.le z.1 0:=by
 have hr:m.le m 0:=⟨ar _,ar _,U⟩
 grind [Mk.hint,uu,nj]
theorem A5(hd:f.data.length<=4194304)(e:m.clean f=.ok m'):m.le m' 9000000:=by
 obtain⟨gE,fw⟩:=oF f.data;have Fh:=y6 f.data (cx f.data) fw;have pN:=aH5 (cx f.data);have hexl:(cx f.data).length<=2*f.data.length+1:=by
  grind [sP,yG,lS,cx]
 have h0:m.le {m with bz:=m.bz+nF (cx f.data),cD:=m.cD+(Cv f.data (cx f.data)).length} 9000000:=⟨by show m.bz+_<=_;omega,by show m.cD+_<=_;omega,U⟩;unfold Mk.clean at e;split at e
 ·cases e
 ·rename_i m2 h2;split at e
  ·cases e
  ·rename_i m3 h3;cases e;have h4:m.le m2 9000000:=by
    unfold Mk.od at h2
    dsimp only at h2
    split at h2
    ·split at h2
     ·cases h2
     ·rename_i m4 h4;have h5:=h0.trans (MW h4);split at h2
      ·exact h5.trans (nj h2)
      ·exact h5.trans (uu h2)
    grind
   have h5:=h4.trans (MI h3);exact⟨h5.bz,h5.cD,h5.gu⟩
def kR{α:Type}(f:Mk->α->Except Int Mk):List α->Mk->Except Int Mk
 |[],m=>.ok m
 |x::r,m=>match f m x with
  |.error e=>.error e
  |.ok m'=>kR f r m'
def xd(m:Mk)(f:B0):Except Int Mk:=m.do ⟨1,f.iD.name,[],[],0⟩
def rb(ts:List UInt32)(m:Mk)(f:B0):Except Int Mk:=
 if f.no∈ts then .ok {m with gu:=m.gu+1}else match m.clean f.iD with
  |.error e=>.error e
  |.ok m'=>.ok {m' with gu:=m'.gu+1}
def qB(l:List bn)(m:Mk)(f:B0):Except Int Mk:=
 if 0<=iH l (eY f.iD.name).1 then .ok m else match m.do ⟨1,f.iD.name,[],[],0⟩with
  |.error e=>.error e
  |.ok m'=>.ok {m' with gu:=m'.gu+1}
def fI(l:List bn)(cap:Int)(ts:List UInt32):Except Int Mk:=
 if cap<0\/cap>4194304\/lI l=false\/(aZ l:Int)>cap then .error 110
 else match kR xd (vY 4 l) ⟨l,cap,[],0,0,0,0,aZ l⟩with
  |.error e=>.error e
  |.ok m1=>match kR (rb ts) (vY 1 l) m1 with
   |.error e=>.error e
   |.ok m2=>kR (qB l) (vY 2 l) m2
structure Mk.sd(m:Mk):Prop where
 cap:m.cap<=4194304
 st:∀s∈m.steps,s.data.length<=4194304
theorem qj{s:eH}(h:m.sd)(hs:s.op=2\/s.data=[])(e:m.do s=.ok m'):m'.sd:=by
 unfold Mk.do at e;split at e
 ·cases e
 ·rename_i l hl;split at e
  ·cases e
  ·rename_i h2;cases e;refine⟨h.cap,λx hx=>?_⟩;have hx:x∈m.steps++[s]:=hx;rcases cM.1 hx with h3|h3
   ·exact h.st x h3
   ·rw[bD.1 h3]
    rcases hs with h4|h4
    ·unfold jg at hl;split at hl
     ·cases hl
     ·split at hl
      ·cases hl
      ·unfold uR at hl
       rw[if_neg av,if_pos h4]at hl
       cases hl
       rw[uO]at h2
       have h5:=h.cap
       grind
    grind
theorem qU{d:Bs}(h:m.sd)(e:m.ahead nm d=.ok m'):m'.sd:=by
 unfold Mk.ahead at e;split at e
 ·cases e
 ·rename_i m1 h1;split at e
  ·cases e
  ·rename_i m2 h2;exact qj (qj (qj h (.inl U) h1) (.inr U) h2) (.inr U) e
theorem MG{z:Mk×Bs}(h:m.sd)(e:m.v7 j=.ok z):z.1.sd:=by
 unfold Mk.v7 at e
 grind [qU]
theorem MX{b:Bs}(h:m.sd)(e:m.hint nm b=.ok z):z.1.sd:=by
 unfold Mk.hint at e
 split at e
 ·split at e
  ·grind
  ·dsimp only at e
   split at e
   ·grind [qU]
   ·split at e
    ·cases e
    ·rename_i m1 h1;cases e;exact qj h (.inr U) h1
 grind [qU]
theorem Jf(h:m.sd)(e:m.clean f=.ok m'):m'.sd:=by
 have h0:Mk.sd {m with bz:=m.bz+nF (cx f.data),cD:=m.cD+(Cv f.data (cx f.data)).length}:=⟨h.cap,h.st⟩;unfold Mk.clean at e;split at e
 ·cases e
 ·rename_i m2 h2;split at e
  ·cases e
  ·rename_i m3 h3;cases e;have h4:m2.sd:=by
    unfold Mk.od at h2
    dsimp only at h2
    split at h2
    ·split at h2
     ·cases h2
     ·rename_i m4 h4
      have h5:=MG h0 h4
      split at h2
      ·exact qj h5 (.inr U) h2
      grind [qU]
    grind
   have h5:=MX h4 h3;exact⟨h5.cap,h5.st⟩
theorem vK{α:Type}{f:Mk->α->Except Int Mk}{I:Mk->Prop}(hI:∀m x m',I m->f m x=.ok m'->I m'):∀(l:List α) (m m':Mk),I m->kR f l m=.ok m'->I m'
 |[],m,m',h,e=>by cases e;exact h
 |x::r,m,m',h,e=>by
  unfold kR at e;split at e
  ·cases e
  ·rename_i m1 h1;exact vK hI r m1 m' (hI _ _ _ h h1) e
theorem vL{l:List bn}{cap:Int}{ts:List UInt32}{m:Mk}(e:fI l cap ts=.ok m):m.sd:=by
 unfold fI at e;split at e
 ·cases e
 ·rename_i hg;split at e
  ·cases e
  ·rename_i m1 h1;split at e
   ·cases e
   ·rename_i m2 h2;have k0:Mk.sd ⟨l,cap,[],0,0,0,0,aZ l⟩:=⟨by grind,λs hs=>by cases hs⟩;have k1:=vK (I:=Mk.sd) (λm x m' h e=>qj h (.inr U) e) _ _ _ k0 h1;have k2:=vK (I:=Mk.sd) (λm x m' h e=>by
     unfold rb at e;split at e
     ·cases e;exact⟨h.cap,h.st⟩
     ·split at e
      ·cases e
      ·rename_i m3 h3;cases e;have:=Jf h h3;exact⟨this.cap,this.st⟩) _ _ _ k1 h2
    exact vK (I:=Mk.sd) (λm x m' h e=>by
     unfold qB at e
     split at e
     ·grind
     ·split at e
      ·cases e
      ·rename_i m3 h3;cases e;have:=qj h (.inr U) h3;exact⟨this.cap,this.st⟩) _ _ _ k2 e
def aH6(r:Except Int Mk)(v:Value)(B:List az):Prop:=match r with
 |.error e=>v=.tuple #[.agg z183.toArray,.int .i64 e]/\B=[]
 |.ok m=>∃ss:List (WB eH),∃sa sc fa fc fx,ss.map (·.1)=m.steps/\v=.tuple #[.agg #[.slice sa ss.length sc,.slice fa m.gu fc,.int .u64 m.top.toNat,.int .i64 m.bz,.int .i64 m.cD,.int .i64 m.ky],.int .i64 0]/\B=[own 266 5 sa ss.length sc (ss.flatMap db),dz eH.data ss,own 270 5 fa m.gu fc fx]
theorem MT{P:Program}{b:Frame}{κ:Type}(pred:κ->α->az)(key:κ)(x:α){ι:Type}{f:ι->List az}(hd:pred key x=ex f)(i:ι){rest:List az}[he:EM Hs (f i) rest](h:X P b β cc k E (pred key x::rest) R):X P b β cc k E Hs R:=
 X.cd (he.out.trans (hd▸gU i rest)) h
@[reducible] def Xy(q:List (WB bn))(cap:Int):Mk:=⟨q.map (λx=>x.1),cap,[],0,0,0,0,aZ (q.map (λx=>x.1))⟩
theorem xe(f:Mk->α->Except Int Mk)(x:α)(r:List α)(m:Mk):kR f (x::r) m=(match f m x with|.error e=>.error e|.ok m'=>kR f r m'):=rfl
theorem Iz(cap:Int)(a:Option Addr)(n c:Nat)(q:List (WB bn))(hn:q.length=n)(hs:n<=60000000000)(h0:a=none->n=0/\c=0)(hu:aZ (q.map (·.1))<=1000000000000)(ta:Option Addr)(tn tc:Nat)(ts:List UInt32)(Xz:ts.length=tn)(YS:tn<=1000000000000):
 TR ab GG 121 #[.slice a n c,.int .i64 cap,.slice ta tn tc] [bV (bp bG) 2 a q,dz bn.data q,bV RU 1 ta ts] (cb (aH6 (fI (q.map (·.1)) cap ts))):=by
 subst hn
 refine jr U λb β hb hG=>?_
 have hplsd:=@vL (q.map (·.1)) cap ts
 generalize bu:fI (q.map (·.1)) cap ts=res at*
 unfold fI at bu
 refine xA ?_
 intro b6
 refine xA ?_
 intro b7
 refine xT 24 ?_ ?_<;>intro h1
 ·have h1:cap<0:=by grind
  rw[if_pos (.inl h1)]at bu;exact bh3
 have h1:¬cap<0:=bE
 refine xT 28 ?_ ?_<;>intro h2
 ·have h2:cap>4194304:=by grind
  rw[if_pos (.inr (.inl h2))]at bu;exact bh3
 have h2:¬cap>4194304:=bE
 refine xJ (Qa GG a _ c q U av av) ?_
 refine xT 33 ?_ ?_<;>intro h3
 ·have h3:lI (q.map (·.1))=false:=by grind
  rw[if_pos (.inr (.inr (.inl h3)))]at bu;exact bh3
 have h3:lI (q.map (·.1))=true:=bE
 refine xJ (qy GG a _ c q U av av) ?_
 refine xB ?_ ?_<;>intro h4
 ·have h4:(aZ (q.map (·.1)):Int)>cap:=by grind
  rw[if_pos (.inr (.inr (.inr h4)))]at bu;exact bh3
 have h4:¬(aZ (q.map (·.1)):Int)>cap:=bE
 rw[if_neg bE]at bu
 have sY:∀f∈q.map (·.1),dy f.name=true:=by
  grind [lI]
 have XA:∀x∈q,x.1.data.length<=4194304:=by
  intro x hx;obtain⟨i,hi,rfl⟩:=List.mem_iff_getElem.1 hx;have h1:=oW (q.map (·.1)) i Ij;have h2:=rY (q.map (·.1)) (i+1);rw[ft]at h1;omega
 have wI:∀x∈q,x.1.name.length<=1000:=aZ8
 refine xS ?_
 refine UW (fst:=[]) (us:=[]) (cap:=[au b6,au b7]) hb U U U  ?_
 refine xJ (qy GG a _ c q U av av) ?_
 refine xP ?_
 intro M
 refine X.cd (ej 266 5 _) ?_
 refine X.cd (ej 270 5 _) ?_
 refine Pv eH.data ?_
 refine X.cd (dY (p:=Ui.ok ⟨q,a,c,[],none,0,none,0,[]⟩ (Xy q cap)) ⟨U,h0,U⟩ _) ?_
 have Ym:Mk.ok (Xy q cap) q.length:=⟨by simp,by simp,by grind,by grind,sY⟩
 refine X.cd (Hs':=[pu (Ui.ok ⟨q,a,c,[],none,0,none,0,[]⟩ (Xy q cap)),dz eH.data [],own 270 5 none (Xy q cap).gu 0 [],own 266 5 none ([]:List (WB eH)).length 0 (([]:List (WB eH)).flatMap db),bx M 258 ((Xy q cap).cs ⟨q,a,c,[],none,0,none,0,[]⟩),bx b7 23 [.int .i64 0],bx b6 183 z183,bV (bp bG) 2 a q,dz bn.data q,bV RU 1 ta ts]) (aN.refl _) ?_
 refine MT uh M (Xy q cap) U ⟨q,a,c,[],none,0,none,0,[]⟩ ?_
 have aH7:(Xy q cap).gu=0:=U
 have hfr0:(Xy q cap).bz=0:=U
 have hju0:(Xy q cap).cD=0:=U
 have hM0:(⟨q.map (·.1),cap,[],0,0,0,0,aZ (q.map (·.1))⟩:Mk)=Xy q cap:=U
 rw[hM0]at bu
 clear hM0
 generalize Xy q cap=m0 at*
 refine ei hG (Il 4 a _ c q U av (λx hx=>by grind)) U U U iv ?_
 rintro v B ⟨a4,c4,rfl,rfl⟩
 dsimp only[ae,ai,ah]
 have hQl:(lJ 4 q).length<=q.length:=al0
 rw[<-vF]at bu
 have hQn:∀x∈lJ 4 q,x.1.iD.name.length<=1000:=λx hx=>wI _ (oc hx)
 generalize lJ 4 q=Q at*
 refine dE a4 lh Q U U (λ_=>rfl) λ_=>xS ?_
 generalize IA:kR xd (Q.map (·.1)) m0=r1 at*
 refine eT [2,6,7,8,9,49] [2,1] (ι:={z:Nat×Mk // z.1<=Q.length/\z.2.ok (q.length+z.1)/\kR xd ((Q.map (·.1)).drop z.1) z.2=r1/\z.2.bz=0/\z.2.cD=0/\z.2.gu=0}) (λz q_=>(50,aX Q.length)::(51,aX z.1.1)::q_) (λz q_=>uh M z.1.2::q_) (λz=>Q.length - z.1.1) ⟨(0,m0),al _,Ym,by simpa using IA,hfr0,hju0,aH7⟩ ?_
 clear IA hfr0 hju0 aH7 Ym
 rintro⟨⟨i,m⟩,hi,Az,hf,hmf,hmj,hma⟩ ih
 dsimp only at hi Az hf hmf hmj hma ⊢
 refine xB ?_ ?_<;>intro h5
 ·have hi:i<Q.length:=by grind
  rw[mW _ _ _ hi,xe]at hf;have hxn:=hQn _ (aB hi);refine xS ?_;refine cH U U U U U hi U λbl o=>?_;generalize Q[i]=x at*;refine xS ?_;refine dF U U U U  ?_;refine xA ?_;intro wu;refine wc eH.data ⟨1,x.1.iD.name,[],[],0⟩ U ?_;refine uk (us1:=[]) (cap1:=[au b6,au b7]) hG hb (D' GG M m (⟨1,x.1.iD.name,[],[],0⟩,none,0) (aj Az.now av) (aj Az.steps av) (by have:=Az.used;simp;omega)) U U U iv (λe he=>?_) ?_
  ·unfold xd at hf;rw[he]at hf;subst hf;exact bD3
  ·rintro m1 py v B ⟨rfl,rfl⟩;have AA:=jm Az py;have hle:=nj py;have g1:=hle.bz;have g2:=hle.cD;have g3:=hle.gu;unfold xd at hf;rw[py]at hf;refine xD ?_;exact X.W (ih ⟨(i+1,m1),by omega,AA,hf,by grind,by grind,by grind⟩ bE)
 have fw:i=Q.length:=bE
 subst fw
 rw[bc nH]at hf
 have hf:Except.ok m=r1:=hf
 subst hf
 dsimp only at bu
 clear hi ih h5 hQn
 refine xS ?_
 refine ei hG (Il 1 a _ c q U av (λx hx=>by grind)) U U U iv ?_
 rintro v B ⟨a63,c63,rfl,rfl⟩
 dsimp only[ae,ai,ah]
 have hQl1:(lJ 1 q).length<=q.length:=al0
 rw[<-vF 1 q]at bu
 have hQn:∀x∈lJ 1 q,x.1.iD.name.length<=1000:=λx hx=>wI _ (oc hx)
 have hQd:∀x∈lJ 1 q,x.1.iD.data.length<=4194304:=λx hx=>XA _ (oc hx)
 refine CT (data:=bn.data) (λx:B0=>x.iD.data) q (lJ 1 q) (λy hy=>⟨_,oc hy,y.1.iD.data.length,U,by rw[bh]⟩) ?_
 generalize lJ 1 q=Q1 at*
 refine dE a63 lh Q1 U U (λ_=>rfl) λ_=>xS ?_
 generalize ZV:kR (rb ts) (Q1.map (·.1)) m=r2 at*
 refine X.loop (ι:={z:Nat×Mk // z.1<=Q1.length/\z.2.ok (2*q.length+9*z.1)/\kR (rb ts) ((Q1.map (·.1)).drop z.1) z.2=r2/\z.2.bz<=9000000*z.1/\z.2.cD<=9000000*z.1/\z.2.gu=z.1}) (λz=>([(2,.slice ta tn tc),(6,au b6),(7,au b7),(8,.slice a q.length c),(9,au M),(63,.slice a63 Q1.length c63),(64,aX Q1.length),(65,aX z.1.1)],[uh M z.1.2,bx b6 183 z183,bx b7 23 [.int .i64 0],bV (bp lh) 3 a63 Q1,dz (λx:B0=>x.iD.data) Q1,bV (bp bG) 2 a q,dz bn.data q,bV RU 1 ta ts])) (λz=>Q1.length - z.1.1) ⟨(0,m),al _,Az.mono av,by simpa using ZV,by dsimp only;omega,by dsimp only;omega,hma⟩ (Sub.of U) ay ?_
 clear ZV Az hmf hmj hma
 rintro⟨⟨i,m⟩,hi,Az,hf,hmf,hmj,hma⟩ ih
 dsimp only at hi Az hf hmf hmj hma ⊢
 refine xB ?_ ?_<;>intro h5
 ·have hi:i<Q1.length:=by grind
  rw[mW _ _ _ hi,xe]at hf
  have hxm:=aB hi
  have hxn:=hQn _ hxm
  have hxd:=hQd _ hxm
  refine CT (data:=λx:B0=>x.iD.data) bn.data Q1 [((Q1[i].1.iD,Q1[i].2):WB bn)] (λy hy=>by grind [bh]) (xS ?_)
  refine cH U U U U U hi U λbl o=>?_
  generalize Q1[i]=x at*
  refine xS ?_
  refine dF U U U U  ?_
  refine xA ?_
  intro FE
  refine xA ?_
  intro K7
  refine xJ (V0 GG ta tn tc ts x.1.no Xz av) ?_
  have iq:ts.contains x.1.no=decide (x.1.no∈ts):=by simp[List.contains_eq_mem]
  rw[iq]
  refine xS ?_
  refine jI (ι:={z:Mk×Bs×Option Addr×Nat×Nat×Bs×Int // (if x.1.no∈ts then Except.ok m else m.clean x.1.iD)=.ok z.1}) (λz=>([(2,.slice ta tn tc),(6,au b6),(7,au b7),(8,.slice a q.length c),(9,au M),(14,au K7),(63,.slice a63 Q1.length c63),(64,aX Q1.length),(65,aX i)],[uh M z.1.1,bx K7 270 [ao z.1.2.1,.int .i64 1,.slice z.1.2.2.1 z.1.2.2.2.1 z.1.2.2.2.2.1,ao z.1.2.2.2.2.2.1,.int .i64 z.1.2.2.2.2.2.2],bx b6 183 z183,bx b7 23 [.int .i64 0],bV (bp lh) 3 a63 Q1,dz (λx:B0=>x.iD.data) Q1,bV (bp bG) 2 a q,dz bn.data q,bV RU 1 ta ts])) ?fin ?main
  case main=>
   intro KK dW;by_cases fw:x.1.no∈ts
   ·refine aM 77 false U (by simp[fw]) (xS ?_);exact X.W (dW ⟨(m,x.1.iD.name,none,0,0,[],1),by rw[if_pos fw]⟩)
   ·refine aM 77 true U (by simp[fw]) (xS ?_);refine uk (us1:=[]) (cap1:=[au b6,au b7]) hG hb (Xt M (2*q.length+9*i) m ((x.1.iD,x.2):WB bn) Az av hxn hxd av av) U U U iv (λe he=>?_) ?_
    ·unfold rb at hf;rw[if_neg fw,he]at hf;subst hf;exact bD3
    ·rintro m1 py v B ⟨⟨nm,ea,en,ec,bad,hv,rfl⟩,rfl⟩;refine xD ?_;exact X.W (dW ⟨(m1,nm,ea,en,ec,bad,hv),by grind⟩)
  case fin=>
   rintro⟨⟨m1,nm,ea,en,ec,bad,hv⟩,py⟩;dsimp only at py ⊢;have AA:m1.ok (2*q.length+9*(i+1)):=by
    split at py
    ·cases py;exact Az.mono av
    grind [wj]
   have hle:m.le m1 9000000:=by
    split at py
    ·cases py;exact⟨by omega,by omega,U⟩
    grind [A5]
   have g1:=hle.bz;have g2:=hle.cD;have g3:=hle.gu;have hseg:rb ts m x.1=.ok {m1 with gu:=m1.gu+1}:=by
    grind [rb]
   rw[hseg]at hf;refine X.ma uh M U λp=>?_;obtain⟨q',pa,pc,ss,sa,sc,fa,fc,fx⟩:=p;obtain⟨now,Eb,steps,gu,top,bz,cD,ky⟩:=m1;dsimp only[ae,ai,Mk.cs]at*;refine lj λhp=>xS ?_;refine fM (uC [0,1,2,3,4,5,6,7]) [bx M 258 [.slice pa q'.length pc,.int .i64 Eb,.slice sa ss.length sc,.slice fa gu fc,.int .u64 top.toNat,.int .i64 bz,.int .i64 cD,.int .i64 ky],bx K7 270 [ao nm,.int .i64 1,.slice ea en ec,ao bad,.int .i64 hv]] U ?_;refine xL [0,1,2,3,4,5,6,7] ?_;refine xZ ?_;intro b90;refine sA U U U U iA iA iA iA av λa91 c91=>xS ?_;refine X.cd (dY (p:=Ui.ok ⟨q',pa,pc,ss,sa,sc,a91,c91,fx++[ao nm,.int .i64 1,.slice ea en ec,ao bad,.int .i64 hv]⟩ ⟨now,Eb,steps,gu+1,top,bz,cD,ky⟩) ⟨hp.now,hp.nil,hp.steps⟩ _) ?_;refine MT uh M ⟨now,Eb,steps,gu+1,top,bz,cD,ky⟩ U ⟨q',pa,pc,ss,sa,sc,a91,c91,fx++[ao nm,.int .i64 1,.slice ea en ec,ao bad,.int .i64 hv]⟩ ?_;exact X.W (ih ⟨(i+1,⟨now,Eb,steps,gu+1,top,bz,cD,ky⟩),by omega,⟨AA.now,AA.steps,AA.used,AA.cap,AA.names⟩,hf,by grind,by grind,by grind⟩ bE)
 have fw:i=Q1.length:=bE
 subst fw
 rw[bc nH]at hf
 have hf:Except.ok m=r2:=hf
 subst hf
 dsimp only at bu
 clear hi ih h5 hQn hQd
 refine xS ?_
 refine ei hG (Il 2 a _ c q U av (λx hx=>by grind)) U U U iv ?_
 rintro v B ⟨a98,c98,rfl,rfl⟩
 dsimp only[ae,ai,ah]
 have hQl2:(lJ 2 q).length<=q.length:=al0
 rw[<-vF 2 q]at bu
 have hQn:∀x∈lJ 2 q,x.1.iD.name.length<=1000:=λx hx=>wI _ (oc hx)
 generalize lJ 2 q=Q2 at*
 refine dE a98 lh Q2 U U (λ_=>rfl) λ_=>xS ?_
 refine X.loop (ι:={z:Nat×Mk // z.1<=Q2.length/\z.2.ok (11*q.length+z.1)/\kR (qB (q.map (·.1))) ((Q2.map (·.1)).drop z.1) z.2=res/\z.2.gu<=q.length+z.1}) (λz=>([(6,au b6),(7,au b7),(8,.slice a q.length c),(9,au M),(98,.slice a98 Q2.length c98),(99,aX Q2.length),(100,aX z.1.1)],[uh M z.1.2,bx b6 183 z183,bx b7 23 [.int .i64 0],bV (bp lh) 3 a98 Q2,bV (bp bG) 2 a q,dz bn.data q])) (λz=>Q2.length - z.1.1) ⟨(0,m),al _,Az.mono av,by simpa using bu,by dsimp only;omega⟩ (Sub.of U) ay ?_
 clear bu Az hmf hmj hma
 rintro⟨⟨i,m⟩,hi,Az,hf,hma⟩ ih
 dsimp only at hi Az hf hma ⊢
 refine xB ?_ ?_<;>intro h5
 ·have hi:i<Q2.length:=by grind
  rw[mW _ _ _ hi,xe]at hf;have hxm:=aB hi;have hxn:=hQn _ hxm;refine xS ?_;refine cH U U U U U hi U λbl o=>?_;generalize Q2[i]=x at*;refine xS ?_;refine dF U U U U  ?_;refine xA ?_;intro b16;refine xJ (vE x.1.iD.name av) ?_;refine xJ (vD GG a _ c q (eY x.1.iD.name).1 U av) ?_;unfold qB at hf;refine xB ?_ ?_<;>intro h6
  ·have h6:¬0<=iH (q.map (·.1)) (eY x.1.iD.name).1:=by grind
   rw[if_neg h6]at hf;refine xS ?_;refine wc eH.data ⟨1,x.1.iD.name,[],[],0⟩ U ?_;refine uk (us1:=[]) (cap1:=[au b6,au b7]) hG hb (D' GG M m (⟨1,x.1.iD.name,[],[],0⟩,none,0) (aj Az.now av) (aj Az.steps av) (by have:=Az.used;simp;omega)) U U U iv (λe he=>?_) ?_
   ·rw[he]at hf;subst hf;exact⟨_,_,_,_,_,K9 GG b6 b7 e,aN.es,.gX U iA (.cell U iA .nil),⟨U,U⟩,aN.nil _⟩
   ·rintro m1 py v B ⟨rfl,rfl⟩;have AA:=jm Az py;have g3:=(nj py).gu;rw[py]at hf;dsimp only[ae,ai,ah];refine X.ma uh M U λp=>?_;obtain⟨q',pa,pc,ss,sa,sc,fa,fc,fx⟩:=p;obtain⟨now,Eb,steps,gu,top,bz,cD,ky⟩:=m1;dsimp only[ae,ai,Mk.cs]at*;refine lj λhp=>xS ?_;refine eR 11 [0,7] ?_;refine xL [0,1,2,3,4,5,6,7,8,9,10] ?_;refine xZ ?_;intro b90;refine sA U U U U iA iA iA iA av λa91 c91=>xS ?_;refine X.cd (dY (p:=Ui.ok ⟨q',pa,pc,ss,sa,sc,a91,c91,fx++[ao x.1.iD.name,.int .i64 2,.slice none 0 0,ao [],.int .i64 6]⟩ ⟨now,Eb,steps,gu+1,top,bz,cD,ky⟩) ⟨hp.now,hp.nil,hp.steps⟩ _) ?_;refine MT uh M ⟨now,Eb,steps,gu+1,top,bz,cD,ky⟩ U ⟨q',pa,pc,ss,sa,sc,a91,c91,fx++[ao x.1.iD.name,.int .i64 2,.slice none 0 0,ao [],.int .i64 6]⟩ ?_;exact X.W (ih ⟨(i+1,⟨now,Eb,steps,gu+1,top,bz,cD,ky⟩),by omega,⟨AA.now,AA.steps,AA.used,AA.cap,AA.names⟩,hf,by grind⟩ bE)
  ·have h6:0<=iH (q.map (·.1)) (eY x.1.iD.name).1:=by grind
   rw[if_pos h6]at hf;refine xS ?_;exact X.W (ih ⟨(i+1,m),by omega,Az.mono av,hf,by grind⟩ bE)
 have fw:i=Q2.length:=bE
 subst fw
 rw[bc nH]at hf
 have hf:Except.ok m=res:=hf
 subst hf
 clear hi ih h5 hQn
 refine X.ma uh M U λp=>?_
 obtain⟨q',pa,pc,ss,sa,sc,fa,fc,fx⟩:=p
 obtain⟨now,Eb,steps,gu,top,bz,cD,ky⟩:=m
 dsimp only[ae,ai,Mk.cs]at*
 refine lj λhp=>?_
 have hpm:=hp.steps
 dsimp only at hpm
 have hssl:ss.length<=1000000000000:=by
  have h6:=Az.steps
  grind
 refine xS ?_
 refine X.loop (ι:={z:Nat×List (WB eH) // z.1<=ss.length/\z.2.map (·.1)=steps/\z.2.length=ss.length/\z.2.drop z.1=ss.drop z.1}) (λz=>([(6,au b6),(7,au b7),(9,au M),(143,.slice sa ss.length sc),(144,aX ss.length),(145,aX z.1.1)],[own 266 5 sa ss.length sc (z.1.2.flatMap db),dz eH.data z.1.2,bx M 258 [.slice pa q'.length pc,.int .i64 Eb,.slice sa ss.length sc,.slice fa gu fc,.int .u64 top.toNat,.int .i64 bz,.int .i64 cD,.int .i64 ky],own 270 5 fa gu fc fx,bx b6 183 z183,bx b7 23 [.int .i64 0]])) (λz=>ss.length - z.1.1) ⟨(0,ss),al _,hpm,U,U⟩ (Sub.of U) ay ?_
 rintro⟨⟨i,sq⟩,hi,pf,sI,Np⟩ ih
 dsimp only at hi pf sI Np ⊢
 refine xB ?_ ?_<;>intro h5
 ·have hi:i<sq.length:=by grind
  have hsb:sq[i].1.data.length<=1000000000000:=by
   have h6:=(hplsd U).st sq[i].1 bE;omega
  refine gV sa av λg hg=>?_;subst hg;refine oI (data:=eH.data) sq sq[i] (aB hi) λjz mD=>xS ?_;refine du U U U U U av (xS ?_);refine gN (bo:=db) (l:=sq) i U U U U (λ_=>rfl) av hi  ?_;refine xA ?_;intro b20;refine fM (uC [0,1,2,3,4,5,6,7]) [bx M 258 [.slice pa q'.length pc,.int .i64 Eb,.slice (some ⟨g,0,none⟩) ss.length sc,.slice fa gu fc,.int .u64 top.toNat,.int .i64 bz,.int .i64 cD,.int .i64 ky],bx b20 266 (db sq[i])] U ?_;refine xL [0,1,2,3,4,5,6,7] ?_;refine xS ?_;refine ei hG (GU GG sq[i].2.1 _ sq[i].2.2 sq[i].1.data U mD hsb) U U U iv ?_;rintro v B ⟨a8,c8,⟨k5,k6⟩,rfl,rfl⟩;refine xD ?_;refine du U U U U U av (xS ?_);refine HN (bo:=db) (l:=sq) i 3 ((sq[i].1,a8,c8):WB eH) (λ_=>rfl) U U U U (λ_=>rfl) av hi de U U ?_;refine Pz eH.data sq[i].1 a8 c8 k5 k6 ?_;refine A9 (data:=eH.data) sq [((sq[i].1,a8,c8):WB eH)] ?_;refine rK (data:=eH.data) (sq++[((sq[i].1,a8,c8):WB eH)]) (sq.set i (sq[i].1,a8,c8)) (λy hy=>by
   grind) ?_
  have k7:(sq.set i (sq[i].1,a8,c8)).map (·.1)=steps:=by
   rw[<-pf,eZ]
   apply List.ext_getElem nH
   grind
  have k8:(sq.set i (sq[i].1,a8,c8)).drop (i+1)=ss.drop (i+1):=by
   rw[List.drop_set_of_lt av];have:=congrArg (List.drop 1) Np;rw[List.drop_drop,List.drop_drop]at this;rw[this]
  have k9:(sq.set i (sq[i].1,a8,c8)).length=ss.length:=bE;generalize sq.set i (sq[i].1,a8,c8)=sq2 at*;refine xS ?_;exact X.W (ih ⟨(i+1,sq2),by omega,k7,k9,k8⟩ bE)
 refine xS ?_
 rw[<-sI]
 exact Pf (us:=[]) (cap:=[au b6,au b7]) hb hG (Xx GG b6 b7 []) (.gX U iA (.cell U iA .nil)) ⟨_,⟨sq,sa,sc,fa,fc,fx,pf,U,U⟩,ay⟩
theorem UI(F:List az):VS (kP x::F) (dz bn.data [x]::F):=λβ w hs=>by
 have hc:=GA hs (aN.refl _);have h0:kP x=own 5 1 x.2.1 x.1.data.length x.2.2 (x.1.data.flatMap λx=>[fO x]):=by grind [kP,lD]
 exact bn2
theorem CO:∀(q:List (WB bn)) (F:List az),VS (q.map kP++F) (dz bn.data q::F)
 |[],F=>λβ w hs=>hs.cd λ_ o iz=>⟨fL,o,cR _,cJ _,.refl _,λ_ _ x hx=>ua,iz⟩
 |x::q,F=>λβ w hs=>by
  have h1:=UI x (q.map kP++F) β w hs;have h2:=h1.cd (di (b:=q.map kP++(dz bn.data [x]::F)) (ee.symm));have h3:=CO q _ β w h2;exact Yq
theorem pE{l:List bn}{b:Frame}{F:List az}[hf:FP Hs (wS a c l) F](h:∀q:List (WB bn),q.map (·.1)=l->q.length<=c->(a=none->q.length=0/\c=0)->X ab b β cc k E (bV (bp bG) 2 a q::dz bn.data q::F) R):X ab b β cc k E Hs R:=
 jo λw hs=>by
  obtain⟨q,h1⟩:=iX (hs.cd hf.out);obtain⟨rfl,h2⟩:=ln h1;rw[aA]at h2;have hc:=GA h2 (aN.refl _);have h3:=VS.freeze (bo:=bG) _ U (λ_=>rfl) β w h2;have h4:=h3.cd ((cQ _ _ _).trans (gG _ _));have h5:=CO q _ β w h4;refine⟨_,h5.cd (cQ _ _ _),h q U ?_ ?_⟩;all_goals grind
instance:Ug ab 411 6 275:=⟨Tryz.underlying411⟩
def be.write(s:be)(name data:Bs):be×Int:=
 if(s.create name).2≠0\/data.length=0 then s.create name else(s.create name).1.append name data
def be.step(s:be)(st:eH):be×Int:=
 if st.op=1 then s.remove st.name else if st.op=2 then s.write st.name st.data else if st.op=3 then s.sync st.name
 else if st.op=4 then s.rename st.name st.uc else s.truncate st.name st.n
def GY(D:Nat)(r:be×Int)(v:Value)(B:List az):Prop:=v=.int .i64 r.2/\B=[bM D r.1]
theorem XB:TR ab G 272 #[au D,.agg (db st).toArray] [bM D s] (cb (GY D (s.remove st.1.name))):=by
 refine aW U λb β hb hG=>?_;refine xP ?_;intro b3;refine bw (N2 G D s st.1.name) ?_;exact Qi
theorem XC:TR ab G 275 #[au D,.agg (db st).toArray] [bM D s] (cb (GY D (s.sync st.1.name))):=by
 refine aW U λb β hb hG=>?_;refine xP ?_;intro b3;refine bw (DX G D s st.1.name) ?_;exact Qi
theorem XD:TR ab G 276 #[au D,.agg (db st).toArray] [bM D s] (cb (GY D (s.rename st.1.name st.1.uc))):=by
 refine aW U λb β hb hG=>?_;refine xP ?_;intro b3;refine bw (N3 G D s st.1.name st.1.uc) ?_;exact Qi
theorem XE:TR ab G 278 #[au D,.agg (db st).toArray] [bM D s] (cb (GY D (s.truncate st.1.name st.1.n))):=by
 refine aW U λb β hb hG=>?_;refine xP ?_;intro b3;refine bw (Ip G D s st.1.name st.1.n) ?_;exact Qi
theorem XF(hd:st.1.data.length<=1000000000000):TR ab G 274 #[au D,.agg (db st).toArray] [bM D s,dz eH.data [st]] (cb (GY D (s.write st.1.name st.1.data))):=by
 refine aW U λb β hb hG=>?_;have hw:s.write st.1.name st.1.data=if(s.create st.1.name).2≠0\/st.1.data.length=0 then s.create st.1.name else(s.create st.1.name).1.append st.1.name st.1.data:=U;generalize s.write st.1.name st.1.data=res at*;refine oI (data:=eH.data) [st] st (bD.2 U) λjz mD=>?_;refine xP ?_;intro b3;refine xI (DW G D s st.1.name) ?_;generalize s.create st.1.name=cr at*;obtain⟨s1,e1⟩:=cr;dsimp only at*;refine xD ?_;refine xT 12 ?_ ?_<;>intro h1
 ·have h1:e1≠0:=by grind
  rw[if_pos (.inl h1)]at hw;subst hw;exact xR
 ·have h1:e1=0:=by grind
  refine xB ?_ ?_<;>intro h2
  ·have h2:st.1.data.length=0:=by grind
   rw[if_pos (.inr h2)]at hw;subst hw;exact xR
  ·have h2:¬st.1.data.length=0:=by grind
   rw[if_neg av]at hw;refine xI (DY G D s1 st.1.name st.2.1 _ st.2.2 st.1.data U hd) ?_;rw[<-hw];exact bI7
theorem XG(h1:1<=so)(h5:so<=5):∃fb,∃j:Nat,so=j/\j<6/\[Value.nilFunc,zK 272,zK 274,zK 275,zK 276,zK 278][j*1]?=some (zK fb)/\∃_:CF ab fb,∀(D:Nat) (s:be) (st:WB eH),st.1.op=so->st.1.data.length<=1000000000000->
 TR ab G fb #[au D,.agg (db st).toArray] [bM D s,dz eH.data [st]] (cb (GY D (s.step st.1))):=by
 have Af:∀D s st,aN [bM D s,dz eH.data [st]] [bM D s]:=λD s st=>fN [bM D s] [dz eH.data [st]]
 have:so=1\/so=2\/so=3\/so=4\/so=5:=av
 rcases this with rfl|rfl|rfl|rfl|rfl
 ·refine⟨272,1,U,by decide,U,inferInstance,λD s st ho hd=>?_⟩;have:s.step st.1=s.remove st.1.name:=Oc;rw[this];exact(XB G D s st).dH (Af D s st) λ_ B h=>⟨B,h,aN.refl _⟩
 ·refine⟨274,2,U,by decide,U,inferInstance,λD s st ho hd=>?_⟩
  have:s.step st.1=s.write st.1.name st.1.data:=Oc
  grind [XF]
 ·refine⟨275,3,U,by decide,U,inferInstance,λD s st ho hd=>?_⟩;have:s.step st.1=s.sync st.1.name:=Oc;rw[this];exact(XC G D s st).dH (Af D s st) λ_ B h=>⟨B,h,aN.refl _⟩
 ·refine⟨276,4,U,by decide,U,inferInstance,λD s st ho hd=>?_⟩;have:s.step st.1=s.rename st.1.name st.1.uc:=Oc;rw[this];exact(XD G D s st).dH (Af D s st) λ_ B h=>⟨B,h,aN.refl _⟩
 ·refine⟨278,5,U,by decide,U,inferInstance,λD s st ho hd=>?_⟩;have:s.step st.1=s.truncate st.1.name st.1.n:=Oc;rw[this];exact(XE G D s st).dH (Af D s st) λ_ B h=>⟨B,h,aN.refl _⟩
theorem al8(j fb:Nat)(hj:so=j)(hj6:j<6)(hf:[Value.nilFunc,zK 272,zK 274,zK 275,zK 276,zK 278][j*1]?=some (zK fb)):TR ab G 175 #[.int .i64 so] [] (cT (zK fb)):=by
 refine cg U λb β hb hG=>xS ?_;refine UX U U iA iA (xS ?_);refine aT4 U U U U hj hj6 hf  ?_;exact xR
def be.run:be->List eH->Nat->be×Nat×Int
 |s,[],i=>(s,i,0)
 |s,x::r,i=>if(s.step x).2≠0 then((s.step x).1,i,(s.step x).2)else be.run (s.step x).1 r (i+1)
def be.ml(s:be)(ss:List eH):be×Nat×Int:=if ss.any (λx=>decide (x.op<1)||decide (x.op>5))=true then(s,0,110)else s.run ss 0
end
section
variable{e:Int}{m:Mk}{fs:rZ}(l:List bn)(G:bZ)(K:Nat)(d:dR)(key:Bs)(D:Nat)(s:be)
theorem HI(x:eH)(r:List eH)(i:Nat):s.run (x::r) i=if(s.step x).2≠0 then((s.step x).1,i,(s.step x).2)else be.run (s.step x).1 r (i+1):=rfl
theorem IB(a:Option Addr)(m c:Nat)(ss:List (WB eH))(hm:ss.length=m)(hs:m<=1000000000000)(hd:∀x∈ss,x.1.data.length<=1000000000000):
 TR ab G 122 #[au D,.slice a m c] [bM D s,bV (bp db) 5 a ss,dz eH.data ss] (cb λv B=>v=.tuple #[.int .i64 (s.ml (ss.map (·.1))).2.1,.int .i64 (s.ml (ss.map (·.1))).2.2]/\B=[bM D (s.ml (ss.map (·.1))).1]):=by
 subst hm
 refine aW U λb β hb hG=>?_
 have Mn:s.ml (ss.map (·.1))=if(ss.map (·.1)).any (λx=>decide (x.op<1)||decide (x.op>5))=true then(s,0,110)else s.run (ss.map (·.1)) 0:=U
 generalize s.ml (ss.map (·.1))=res at*
 refine xS ?_
 refine eT [0,1,11] [] (ι:={i:Nat // i<=ss.length/\∀j (hj:j<ss.length),j<i->1<=ss[j].1.op/\ss[j].1.op<=5}) (λi q_=>(12,aX ss.length)::(13,aX i.1)::q_) (λi q_=>q_) (λi=>ss.length - i.1) ⟨0,al _,λj _ h=>by omega⟩ ?_
 rintro⟨i,hi,hE⟩ ih
 dsimp only at hi ⊢
 refine xB ?_ ?_<;>intro h
 ·have hi:i<ss.length:=by grind
  have iq:=aB hi;have rA:(ss[i].1.op<1\/ss[i].1.op>5)->res=(s,0,110):=by
   grind
  have Ki:(¬(ss[i].1.op<1\/ss[i].1.op>5))->∀j (hj:j<ss.length),j<i+1->1<=ss[j].1.op/\ss[j].1.op<=5:=by
   grind
  refine xS ?_;refine cH U U U U U hi U λbl o=>?_;generalize ss[i]=x at*;refine xS ?_;refine dF U U U U  ?_;refine xA ?_;intro b7;refine xT 20 ?_ ?_<;>intro h1
  ·have h1:x.1.op<1:=by grind
   rw[rA (.inl h1)];exact xR
  ·have h1:¬x.1.op<1:=by grind
   refine xB ?_ ?_<;>intro h2
   ·have h2:x.1.op>5:=by grind
    rw[rA (.inr h2)];exact xR
   ·have h2:¬x.1.op>5:=by grind
    refine xS ?_;exact X.W (ih ⟨i+1,by omega,Ki av⟩ bE)
 have fw:i=ss.length:=bE
 subst fw
 rw[if_neg (by
  grind [List.mem_iff_getElem])]at Mn
 have hops:∀x∈ss,1<=x.1.op/\x.1.op<=5:=by grind [List.mem_iff_getElem]
 clear ih hE hi h
 refine xS ?_
 refine eT [0,1,26] [0] (ι:={z:Nat×be // z.1<=ss.length/\z.2.run ((ss.map (·.1)).drop z.1) z.1=res}) (λz q_=>(27,aX ss.length)::(28,aX z.1.1)::q_) (λz q_=>bM D z.1.2::q_) (λz=>ss.length - z.1.1) ⟨(0,s),al _,by simpa using Mn.symm⟩ ?_
 clear Mn
 rintro⟨⟨i,s1⟩,hi,hr⟩ ih
 dsimp only at hi hr ⊢
 refine xB ?_ ?_<;>intro h
 ·have hi:i<ss.length:=by grind
  have iq:=aB hi;rw[mW _ _ _ hi,HI]at hr;obtain⟨ho1,ho5⟩:=hops _ iq;have RT:=hd _ iq;have Wh:∀x∈[ss[i]],x∈ss:=bE;refine xS ?_;refine cH U U U U U hi U λbl o=>?_;generalize ss[i]=x at*;obtain⟨fb,j,hj1,hj2,hj3,rH,aI2⟩:=XG G x.1.op ho1 ho5;have iz:=aI2 D s1 x U RT;refine rK (data:=eH.data) ss [x] Wh (xS ?_);refine dF U U U U  ?_;refine xA ?_;intro b9;refine nR [0,1,3,4] [0] ?_;refine xL [0,1,3,4] ?_;refine xJ (al8 G x.1.op j fb hj1 hj2 hj3) ?_;refine gW hG (fst:=[]) (cap:=[]) (us:=[au D,.agg (db x).toArray]) iz U U U U iv ?_;rintro v B ⟨rfl,rfl⟩;generalize s1.step x.1=y at*;obtain⟨s2,e2⟩:=y;dsimp only at hr ⊢;refine xD ?_;refine xB ?_ ?_<;>intro h2
  ·have h2:e2≠0:=by grind
   rw[if_pos h2]at hr;subst hr;exact xR
  ·have h2:¬e2≠0:=by grind
   rw[if_neg h2]at hr;refine xS ?_;exact X.W (ih ⟨(i+1,s2),by omega,hr⟩ bE)
 have fw:i=ss.length:=bE
 subst fw
 rw[bc nH]at hr
 have hr:(s1,ss.length,0)=res:=hr
 subst hr
 exact xR
def iU(x:Place×Rec):Seen:=⟨x.2.key,x.2.eB,x.2.kind,x.1,true,if ca (fj x.2)=0 then eE (fj x.2)else[]⟩
def FZ(l:List bn):dR:=(dR.add [] ((lN l).map iU)).1
theorem GZ:∀L:List B0,(nM L).length<=(L.map λx=>x.iD.data.length).sum
 |[]=>ar _
 |x::r=>by
  have ih:=GZ r;have h:=Ay x.iD.data;exact Vq
theorem Od(c:Int):∀l:List bn,((nP c l).map λx=>x.iD.data.length).sum<=aZ l
 |[]=>ar _
 |x::r=>by
  have ih:=Od c r;have e:aZ (x::r)=x.data.length+aZ r:=KD;rw[e];unfold nP at*;rw[eI];split
  ·omega
  ·rename_i y h;split at h
   ·cases h;rw[aK,eC];show x.data.length+_<=_;omega
   ·cases h
theorem qC:(lN l).length<=aZ l:=by
 refine aj (GZ _) (aj (Nat.le_of_eq ?_) (Od 1 l));exact((iT _ _).map _).sum_nat
theorem La{l:List (Bs×bF)}(h:(l.map (·.1)).Nodup){x:Bs×bF}(hx:x∈l):jE l x.1=some x.2:=by
 induction l<;>grind [jE]
theorem qD{s:be}(h:s.ok):aZ s.all=gf s.files:=by
 unfold be.all be.told aZ gf be.names;rw[cz];have h1:=((iK (s.files.map (·.1))).map ((λf:bn=>f.data.length)∘tL s λf=>f.data.length)).sum_nat;exact ag4
theorem sZ{s:be}(h:s.ok){f:bn}(hf:f∈s.all):dy f.name=true/\f.data.length<=4194304/\∃x∈s.files,x.1=f.name/\x.2.data=f.data:=by
 unfold be.all be.told be.names at hf
 obtain⟨n,hn,rfl⟩:=bj.1 hf
 have hn:=(iK _).mem_iff.1 hn
 obtain⟨x,hx,rfl⟩:=bj.1 hn
 have h2:=La h.nd hx
 unfold tL
 rw[h2]
 refine⟨h.name x hx,?_,x,hx,U,by simp⟩
 have h3:x.2.data.length<=gf s.files:=by
  unfold gf;have h9:∀(l:List Nat) (y:Nat),y∈l->y<=l.sum:=by
   intro l;induction l<;>grind
  exact h9 _ _ (bj.2 ⟨x,hx,U⟩)
 have h4:=h.vX
 have h5:=h.le
 have h6:=h.cap
 grind
theorem oG:s.all.length=s.files.length:=by
 unfold be.all be.told be.names;rw[aA,(iK _).length_eq,aA]
theorem Lb:∀(r:List Seen) (m:Seen),D3 m r=m\/D3 m r∈r
 |[],m=>.inl U
 |x::r,m=>by
  unfold D3;rcases Lb r (if 0<Im x m then x else m)with h|h
  ·rw[h];split
   ·exact .inr nH
   ·exact .inl U
  ·exact .inr (by simp[h])
theorem BB{l:List Seen}(h:l≠[]):vI l∈l:=by
 cases l with
 |nil=>grind
 |cons x r=>
  rcases Lb r x with h|h
  ·show D3 x r∈_;rw[h];simp
  ·show D3 x r∈_;simp[h]
def dR.last(d:dR)(key:Bs):Seen×Int:=
 if lM (kQ d key)=[]then(.zero,81)else if rD (kQ d key)=true then(.zero,82)else(vI (lM (kQ d key)),0)
theorem Qk(gE:dI d<=1000000000):TR ab G 139 #[au K,ao key] [gS K d] (cb λv B=>v=.tuple #[.agg (d.last key).1.cs.toArray,.int .i64 (d.last key).2]/\B=[gS K d]):=by
 refine aW U λb β hb hG=>?_;refine xA ?_;intro b4;refine ye K λdp=>?_;refine bw (Sz G K d key gE) ?_;rintro v B ⟨a,c,rfl,rfl⟩;dsimp only[ae,ai,ah];have Su:=r6 d key dp.nd;have N7:(lM (kQ d key)).length<=(kQ d key).length:=dD _ _;have e0:d.last key=if lM (kQ d key)=[]then(.zero,81)else if rD (kQ d key)=true then(.zero,82)else(vI (lM (kQ d key)),0):=U;generalize d.last key=res at*;generalize lM (kQ d key)=r at*;generalize rD (kQ d key)=fl at*;refine xB ?_ ?_<;>intro h1
 ·have h1:r=[]:=by simp_all
  exact aO5
 ·have h1:¬r=[]:=by grind
  have h1l:0<r.length:=fy.2 h1;rw[if_neg h1]at e0;refine xB ?_ ?_<;>intro h2
  ·rw[if_pos h2]at e0;exact bk2
  ·rw[if_neg Xw]at e0;subst e0;refine xS ?_;refine dE a Seen.cs r U U (λ_=>rfl) λhc=>?_;refine xJ (N5 G a r.length c r U h1l av) ?_;exact mz4
def dR.get(d:dR)(key:Bs):Seen×Int:=if(d.last key).2=0/\(d.last key).1.kind=2 then(.zero,81)else d.last key
theorem IC(gE:dI d<=1000000000):TR ab G 76 #[au K,ao key] [gS K d] (cb λv B=>v=.tuple #[.agg (d.get key).1.cs.toArray,.int .i64 (d.get key).2]/\B=[gS K d]):=by
 refine aW U λb β hb hG=>?_;refine xA ?_;intro b4;refine xH (Qk G K d key gE) ?_;unfold dR.get;generalize d.last key=q at*;refine xA ?_;intro b6;refine xT 16 ?_ ?_<;>intro h1
 ·have h1:q.2=0:=by grind
  refine xB ?_ ?_<;>intro h2
  ·have h2:q.1.kind=2:=by grind
   rw[if_pos ⟨h1,h2⟩];exact mz5
  ·have h2:¬q.1.kind=2:=by grind
   rw[if_neg (λhh=>h2 hh.2)];exact mz5
 ·have h1:¬q.2=0:=by grind
  rw[if_neg (λhh=>h1 hh.1)];exact mz5
def dR.G0(d:dR):List Bs:=sortStr (d.map (·.1))
def dR.tM(d:dR)(ks:List Bs):List Seen:=ks.filterMap λk=>if(d.get k).2=0 then some (d.get k).1 else none
def dR.live(d:dR):List Seen:=d.tM d.G0
theorem Oe(ks:List Bs)(i:Nat)(h:i<ks.length):d.tM (ks.take (i+1))=if(d.get ks[i]).2=0 then d.tM (ks.take i)++[(d.get ks[i]).1]else d.tM (ks.take i):=by
 grind [dR.tM,aY]
theorem al9(gE:dI d<=1000000000):TR ab G 202 #[au K] [gS K d] (cb λv B=>∃a c,v=.slice a d.live.length c/\B=[own 155 8 a d.live.length c (d.live.flatMap Seen.cs),gS K d]):=by
 refine cg U λb β hb hG=>?_
 refine zP K λM fs hp dp jd=>?_
 have hlen:=aj (yW d dp.ne) gE
 have hfm:(jA fs).map (·.1)=fs.map (·.1):=by simp_all
 have zJ:(fs.map (·.1)).Perm (d.map (·.1)):=by grind [DU]
 have pN:fs.length=d.length:=by have:=zJ.length_eq;grind
 refine xS ?_
 refine bw (VA G M) ?_
 rintro v B ⟨p,rfl,rfl⟩
 refine xD ?_
 refine jc [bx p 232 [.map (some M)],mp ao M (jA fs)] ?_
 refine bw (qw G 396 [au p] _ _ _ (VB G p M (jA fs)) (λpre ⟨post,B4⟩=>?_) (λys B4=>?_)) ?_
 ·have:=B4.length_eq
  grind
 ·have:=B4.length_eq
  grind
 rintro v B ⟨ys,yz,a,c,rfl,rfl⟩
 have wx:sortStr ys=d.G0:=ob (yz.trans (hfm▸zJ))
 rw[wx]
 dsimp only[ae,ai,ah]
 have Ud:d.G0.length<=1000000000:=by grind [dR.G0,jh]
 unfold dR.live
 generalize d.G0=ks at*
 refine dE a (λk:Bs=>[ao k]) ks U U (λ_=>rfl) λhc=>?_
 refine kZ [bx p 232 [.map (some M)],mp ao M (jA fs)] ?_
 dsimp only[ae,ai,ah]
 refine wF K M fs hp dp (xS ?_)
 refine X.cd (ej 155 8 _) ?_
 refine eT [0,13] [2,0] (ι:={q:Nat×Option Addr×Nat // q.1<=ks.length}) (λq q_=>(3,.slice q.1.2.1 (d.tM (ks.take q.1.1)).length q.1.2.2)::(14,aX ks.length)::(15,aX q.1.1)::q_) (λq q_=>own 155 8 q.1.2.1 (d.tM (ks.take q.1.1)).length q.1.2.2 ((d.tM (ks.take q.1.1)).flatMap Seen.cs)::q_) (λq=>ks.length - q.1.1) ⟨(0,none,0),al _⟩ ?_
 rintro⟨⟨i,a2,c2⟩,hi⟩ ih
 dsimp only at hi ⊢
 have Fj:(d.tM (ks.take i)).length<=ks.length:=aj (List.length_filterMap_le _ _) (by grind)
 refine xB ?_ ?_<;>intro h
 ·have hi:i<ks.length:=by grind
  have j6:=Oe d ks i hi
  generalize hr:d.tM (ks.take i)=r at*
  refine xS ?_
  refine cH U U U U U hi U λbl o=>?_
  generalize ks[i]=k at*
  refine xH (IC G K d k gE) ?_
  generalize d.get k=g at*
  refine xA ?_
  intro b6
  refine xB ?_ ?_<;>intro h2
  ·rw[if_pos (by grind)]at j6
   refine xZ ?_
   intro b7
   refine eD (g.1) U U U U (by omega) U (by rfl) (by rfl) (by rfl) (by rfl) (by rfl) (by omega) λa8 c8=>xS ?_
   refine X.less (ih ⟨(i+1,a8,c8),by omega⟩ (by grind)) ?_ ?_
   ·dsimp only
    rw[j6]
    exact(Y7 U U U U (eN U (by simp[aX])))
   ·dsimp only
    rw[j6]
    exact ay
  ·rw[if_neg (by grind)]at j6
   refine xS ?_
   refine X.less (ih ⟨(i+1,a2,c2),by omega⟩ (by grind)) ?_ ?_
   ·dsimp only
    rw[j6]
    exact(Y7 U U U U (eN U (by simp[aX])))
   ·dsimp only
    rw[j6]
    exact ay
 ·have fw:i=ks.length:=by grind
  subst fw
  rw[bh]
  refine xS ?_
  exact bO hb (.tmps U) ⟨a2,c2,U,U⟩
theorem Ec:d.live.length<=d.length:=by
 grind [dR.live,dR.tM,dR.G0,jh]
theorem am0:TR ab G 134 #[au K] [] (cb λv B=>∃p,v=.func (.func 201) #[] #[au p]/\B=[bx p 133 [au K]]):=Ka
theorem am1(p K:Nat)(d:dR)(gE:dI d<=1000000000):
 IT ab G 201 [au p] [bx p 133 [au K],gS K d] (λx:Seen=>[.agg x.cs.toArray]) d.live:=by
 refine IT.mk λl I J hY=>?_
 refine aW U λb β hb hG=>xD ?_
 refine ye K λdp=>?_
 have hlen:=aj (Ec d) (aj (yW d dp.ne) gE)
 refine bw (al9 G K d gE) ?_
 rintro v B ⟨a,c,rfl,rfl⟩
 dsimp only[ae,ai,ah]
 generalize d.live=xs at*
 refine dE a Seen.cs xs U U (λ_=>rfl) λhc=>xS ?_
 refine eT [0,6] [3] (ι:={i:Nat // i<=xs.length}) (λi q_=>(7,aX xs.length)::(8,aX i.1)::q_) (λi q_=>I (xs.take i.1)::q_) (λi=>xs.length - i.1) ⟨0,al _⟩ ?_
 rintro⟨i,hi⟩ ih
 dsimp only
 refine xB ?_ ?_<;>intro h
 ·have hi:i<xs.length:=by grind
  have Ue:xs=xs.take i++xs[i]::xs.drop (i+1):=by simp_all
  have hy:=hY (xs.take i) xs[i] (xs.drop (i+1)) Ue;have vy:xs.take (i+1)=xs.take i++[xs[i]]:=bE;refine xS ?_;refine cH U U U U U hi U λbl o=>?_;generalize xs[i]=x at*;refine xS ?_;refine dF U U U U  ?_;refine xA ?_;intro b4;refine rM hG hy U U U U ?_ ?_
  ·dsimp only[ae,ai,ah];rw[<-vy];exact aO9
  ·refine xD ?_;exact X.ret hb (.tmps U) ⟨_,.inr U,ay⟩
 ·have fw:i=xs.length:=by grind
  subst fw;rw[bh];exact aw2
def dR.keys(d:dR):List Bs:=d.live.map (·.key)
theorem XI(gE:dI d<=1000000000):TR ab G 72 #[au K] [gS K d] (cb λv B=>∃a c,v=.slice a d.keys.length c/\B=[own 9 1 a d.keys.length c (d.keys.flatMap λk=>[ao k]),gS K d]):=by
 refine cg U λb β hb hG=>xS ?_;refine ye K λdp=>?_;have hlen:=aj (Ec d) (aj (yW d dp.ne) gE);refine jC U U λb3=>?_;refine A7 (λk:Bs=>[ao k]) 9 1 b3 U (xS ?_);refine bw (am0 G K) ?_;rintro v B ⟨q,rfl,rfl⟩;refine xD ?_;refine qh hG hb (am1 G q K d gE) U (λpre=>[lE (λk:Bs=>[ao k]) 9 1 35 b3 (pre.map (·.key))]) [lE (λk:Bs=>[ao k]) 9 1 35 b3 []] U (λ_=>rfl) de ?_ ?_
 ·intro b' β' l' r pre x post hx lC yy hr;have tJ:pre.length<=1000000000:=bE;refine xA ?_;intro b4;refine qg lC hr (xS ?_);refine mh (λk:Bs=>[ao k]) 9 1 35 b3 λa6 c6=>?_;refine xZ ?_;intro b7;have Z4:(pre.map (·.key)).length=pre.length:=aA _;refine eD (x.key) U U U U av U iA iA iA iA iA av λa8 c8=>xS ?_;have SH:(pre++[x]).map (·.key)=pre.map (·.key)++[x.key]:=nH;refine tD (λk:Bs=>[ao k]) 9 1 35 b3 (pre.map (·.key)++[x.key]) U ?_;rw[<-SH];exact ll lC
 ·intro D;dsimp only[ae,ai,ah];unfold dR.keys;refine mh (λk:Bs=>[ao k]) 9 1 35 b3 λa6 c6=>xS ?_;exact bi4
def dR.top(d:dR):Nat:=(d.map λx=>(lL x.2).toNat).foldr max 0
theorem xg:∀(l:List Seen) (m:UInt64),(l.foldl yX m).toNat=max m.toNat (lL l).toNat
 |[],m=>by simp[lL]
 |s::r,m=>by
  rw[cY,xg r (yX m s),show lL (s::r)=r.foldl yX (yX 0 s)from rfl,xg r (yX 0 s)];unfold yX;have h0:(0:UInt64).toNat=0:=U;simp only[h0];split<;>split<;>omega
theorem wA{α β:Type}(f:α->β):∀(l:List α) (i:Nat),(l.eraseIdx i).map f=(l.map f).eraseIdx i
 |[],i=>by simp
 |x::r,0=>rfl
 |x::r,i+1=>by simp[wA f r i]
theorem tN:∀(l:List Nat) (i:Nat) (h:i<l.length),l.foldr max 0=max l[i] ((l.eraseIdx i).foldr max 0)
 |x::r,0,_=>rfl
 |x::r,i+1,h=>by
  have:=tN r i BU;simp only[List.foldr_cons,dJ,List.eraseIdx_cons_succ];omega
theorem Ed{l m:List Nat}(h:l.Perm m):l.foldr max 0=m.foldr max 0:=h.foldr_eq' (λx _ y _ z=>by omega) 0
def wtK(fs:rZ)(p:Bs×Value):Nat:=(lL (mZ fs p.1).2).toNat
theorem oe(jd:(fs.map (·.1)).Nodup){x:Bs×Aq}(h:x∈fs):mZ fs x.1=x.2:=by
 obtain⟨pre,post,rfl⟩:=List.append_of_mem h
 grind [mZ]
theorem am2{d:dR}(hp:(FW fs).Perm d)(jd:(fs.map (·.1)).Nodup):((jA fs).map (wtK fs)).foldr max 0=d.top:=by
 unfold dR.top
 have h1:(jA fs).map (wtK fs)=(FW fs).map λx=>(lL x.2).toNat:=by
  unfold jA FW
  rw[cz,cz]
  apply bQ
  intro x hx
  show(lL (mZ fs x.1).2).toNat=(lL x.2.2).toNat
  grind [oe]
 grind [Ed]
theorem XJ(gE:dI d<=1000000000):TR ab G 85 #[au K] [gS K d] (cb λv B=>v=.int .u64 d.top/\B=[gS K d]):=by
 refine cg U λb β hb hG=>?_;refine zP K λM fs hp dp jd=>?_;have sE:=am2 hp jd;refine xS ?_;refine rh U U U λr=>xS ?_;refine eT [0,12] [0] (ι:={q:List (Bs×Value)×Option (Bs×Value)×UInt64 // q.1.Sublist (jA fs)/\max q.2.2.toNat ((q.1.map (wtK fs)).foldr max 0)=d.top}) (λq q_=>(3,.int .u64 q.1.2.2.toNat)::q_) (λq q_=>FF ao r M (jA fs) q.1.1 q.1.2.1::q_) (λq=>q.1.1.length) ⟨(jA fs,none,0),List.Sublist.refl _,by rw[sE];simp⟩ ?_;rintro⟨⟨S,ko,n⟩,hS,hn⟩ ih;dsimp only at hS hn ih ⊢;refine xS ?_;refine wk U U U (λhS0=>?_) (λi hi=>?_)
 ·subst hS0;have hn:n.toNat=d.top:=bE;rw[hn];refine xS ?_;refine zL r ?_;refine wF K M fs hp dp  ?_;exact xR
 ·have iq:S[i]∈jA fs:=hS.subset (aB hi);have pz:(S.eraseIdx i).length<S.length:=bE;have hfe:=tN (S.map (wtK fs)) i Ij;rw[ft,<-wA]at hfe;have RJ:(S.eraseIdx i).Sublist (jA fs):=(List.eraseIdx_sublist S i).trans hS;generalize S.eraseIdx i=S2 at*;refine xS ?_;refine zO U U U ?_;generalize S[i]=pd at*;obtain⟨x,hx,hxe⟩:=bj.1 iq;have Uj:=oe jd hx;subst hxe;rw[show wtK fs (x.1,vZ x.2)=(lL x.2.2).toNat from by grind [wtK]]at hfe;obtain⟨key,⟨a,c⟩,l⟩:=x;dsimp only at hfe Uj ⊢;have Su:=r6 d key dp.nd;have hg:kQ d key=l:=bl5;rw[hg]at Su;refine Ce fs key jd ?_;rw[Uj];dsimp only[vZ];refine xS ?_;refine eT [0,12,17] [] (ι:={i:Nat // i<=l.length}) (λj q_=>(3,.int .u64 ((l.take j.1).foldl yX n).toNat)::(18,aX l.length)::(19,aX j.1)::q_) (λj q_=>q_) (λj=>l.length - j.1) ⟨0,al _⟩ ?_;rintro⟨j,hj⟩ pG;dsimp only;refine xB ?_ ?_<;>intro h
  ·have hj:j<l.length:=by grind
   have j6:=sV yX n l j hj;refine xS ?_;refine gV a av λbl Fh=>?_;subst Fh;refine du U U U U U hj (xS ?_);refine gN (bo:=Seen.cs) (l:=l) j U U U U (λ_=>rfl) nH hj  ?_;refine xA ?_;intro b7;rw[KZ,<-j6];exact aH4
  ·have fw:j=l.length:=by grind
   subst fw;rw[bh];have hfm:=xg l n;generalize l.foldl yX n=n2 at*;refine xS ?_;refine x9 fs key jd Uj ?_;exact X.W (ih ⟨(S2,some (key,.slice a l.length c),n2),RJ,by grind⟩ pz)
theorem r7{f:mj}(h:ca f=0):(eE f).length<=3001:=by
 grind [qt,je,eE]
theorem XK(hl:s.files.length<=100000000000)(dp:s.ok):
 TR ab GG 123 #[au D] [bM D s] (cb λv B=>∃K,v=au K/\B=[gS K (FZ s.all),bM D s]):=by
 refine cg U λb β hb hG=>?_
 have hvl:=qC s.all
 rw[qD dp]at hvl
 have h1:=dp.vX
 have h2:=dp.le
 have h3:=dp.cap
 have ub:=oG s
 have iq:=λf hf=>@sZ s dp f hf
 have hkd:FZ s.all=(dR.add [] ((lN s.all).map iU)).1:=U
 refine xS ?_
 refine bw (Ir GG) ?_
 rintro v B ⟨K,rfl,rfl⟩
 refine xD ?_
 refine jC U U λb4=>?_
 refine A7 Seen.cs 155 8 b4 U (xS ?_)
 refine bw (lW GG D s av) ?_
 rintro v B ⟨a,c,rfl,rfl⟩
 dsimp only[ae,ai,ah]
 refine pE a c (l:=s.all) λq hq Z7 Ms=>?_
 generalize s.all=l at*
 subst hq
 rw[aA]at ub
 rw[aA]
 refine xS ?_
 refine bw (Iv GG a q.length c) ?_
 rintro v B ⟨p,rfl,rfl⟩
 refine xD ?_
 generalize hV:lN (q.map (·.1))=V at*
 have hit:=Iw p a q.length c q U av (λx hx=>by
  have h5:=iq _ (bj.2 ⟨x,hx,U⟩);have h6:=jT h5.1;exact⟨by omega,by omega⟩)
 rw[hV]at hit
 refine qh hG hb hit U (λpre=>[lE Seen.cs 155 8 235 b4 (pre.map iU)]) [lE Seen.cs 155 8 235 b4 []] U (λ_=>rfl) de ?_ ?_
 ·intro b' β' l' r pre x post hx lC yy hr;have tJ:pre.length<=4194304:=bE;have SH:(pre++[x]).map iU=pre.map iU++[iU x]:=nH;have Z4:(pre.map iU).length=pre.length:=aA _;have F0:iU x=⟨x.2.key,x.2.eB,x.2.kind,x.1,true,if ca (fj x.2)=0 then eE (fj x.2)else[]⟩:=U;rw[SH];generalize pre.map iU=sl at*;generalize iU x=sx at*;obtain⟨pl,rc⟩:=x;dsimp only[pr2,yx]at F0 ⊢;refine xA ?_;intro b5;refine xA ?_;intro b6;refine qg lC hr (xS ?_);refine Cc yy U U U (xS ?_);refine ei yy (oE GG (fj rc)) U U U aN.es ?_;rintro v B (⟨h0,a7,c7,rfl,rfl⟩|⟨h0,rfl,rfl⟩)
  ·rw[if_pos h0]at F0;subst F0;have Fh:=r7 h0;refine xD ?_;refine mh Seen.cs 155 8 235 b4 λa9 c9=>xS ?_;refine xV U U U U  ?_;refine xZ ?_;intro rR;refine eD ((⟨rc.key,rc.eB,rc.kind,pl,true,eE (fj rc)⟩:Seen)) U U U U av U iA iA iA iA iA av λa8 c8=>xS ?_;refine tD Seen.cs 155 8 235 b4 (sl++[(⟨rc.key,rc.eB,rc.kind,pl,true,eE (fj rc)⟩:Seen)]) U ?_;exact ll lC
  ·rw[if_neg h0]at F0;subst F0;refine xD ?_;refine mh Seen.cs 155 8 235 b4 λa9 c9=>?_;refine jl UInt8 RB 1  ?_;refine xZ ?_;intro rR;refine eD ((⟨rc.key,rc.eB,rc.kind,pl,true,[]⟩:Seen)) U U U U av U iA iA iA iA iA av λa8 c8=>xS ?_;refine tD Seen.cs 155 8 235 b4 (sl++[(⟨rc.key,rc.eB,rc.kind,pl,true,[]⟩:Seen)]) U ?_;exact ll lC
 ·intro DD;dsimp only[ae,ai,ah];refine mh Seen.cs 155 8 235 b4 λa6 c6=>?_;refine dE a6 Seen.cs (V.map iU) U U (λ_=>rfl) λ_=>?_;refine xE (Aw GG K [] a6 _ c6 (V.map iU) U (by rw[aA];show 0+_<=_;omega)) ?_;rw[hkd];exact aF7
theorem y8(c:Int)(l:List bn):(vY c l).length<=l.length:=by
 unfold vY;rw[jS];exact List.length_filterMap_le _ _
theorem y9{α:Type}{f:Mk->α->Except Int Mk}(k:Nat)(hf:∀m x m' L,m.ok L->f m x=.ok m'->m'.ok (L+k)):∀(l:List α) (m m':Mk) (L:Nat),m.ok L->kR f l m=.ok m'->m'.ok (L+k*l.length)
 |[],m,m',L,h,e=>by cases e;exact h
 |x::r,m,m',L,h,e=>by
  unfold kR at e;split at e
  ·cases e
  ·rename_i m1 h1
   have:=y9 k hf r m1 m' _ (hf _ _ _ _ h h1) e
   grind
theorem AB{l:List bn}{cap:Int}{ts:List UInt32}{m:Mk}(e:fI l cap ts=.ok m):m.ok (12*l.length):=by
 unfold fI at e;split at e
 ·cases e
 ·rename_i hg;split at e
  ·cases e
  ·rename_i m1 h1;split at e
   ·cases e
   ·rename_i m2 h2;have qO:lI l=true:=by
     grind
    have sY:∀f∈l,dy f.name=true:=by
     grind [lI]
    have k0:Mk.ok ⟨l,cap,[],0,0,0,0,aZ l⟩ l.length:=⟨ar _,al _,by grind,by grind,sY⟩;have k1:=y9 1 (λm x m' L h e=>jm h e) _ _ _ _ k0 h1;have k2:=y9 9 (λm x m' L h e=>by
     unfold rb at e;split at e
     ·cases e;have:=h.mono (show L<=L+9 by omega);exact⟨this.now,this.steps,this.used,this.cap,this.names⟩
     ·split at e
      ·cases e
      ·rename_i m3 h3;cases e;have:=wj h h3;exact⟨this.now,this.steps,this.used,this.cap,this.names⟩) _ _ _ _ k1 h2
    have k3:=y9 1 (λm x m' L h e=>by
     unfold qB at e;split at e
     ·exact aJ5
     ·split at e
      ·cases e
      ·rename_i m3 h3;cases e;have:=jm h h3;exact⟨this.now,this.steps,this.used,this.cap,this.names⟩) _ _ _ _ k2 e
    have l4:=y8 4 l;have l1:=y8 1 l;have l2:=y8 2 l;exact k3.mono av
structure Z8 where
 dir:dR
 top:UInt64
 bz:Nat
 cD:Nat
def s6(s:be):be×Except Int Z8:=
 if s.down=true then(s,.error 75)else
 match fI s.all s.cap []with
 |.error e=>(s,.error e)
 |.ok m=>if(s.ml m.steps).2.2≠0 then((s.ml m.steps).1,.error (s.ml m.steps).2.2)else((s.ml m.steps).1,.ok ⟨FZ (s.ml m.steps).1.all,m.top,m.bz,m.cD⟩)
@[reducible] def z89:List Value:=[.slice none 0 0,.int .u64 0,.int .i64 0,.int .i64 0]
def XL(D:Nat)(r:be×Except Int Z8)(v:Value)(B:List az):Prop:=match r.2 with
 |.error e=>v=.tuple #[.pointer none,.agg z89.toArray,.int .i64 e]/\B=[bM D r.1]
 |.ok z=>∃K fa fn fc,v=.tuple #[au K,.agg #[.slice fa fn fc,.int .u64 z.top.toNat,.int .i64 z.bz,.int .i64 z.cD],.int .i64 0]/\B=[gS K z.dir,bM D r.1]
theorem rL{s:eH}(h:m.do s=.error e):e=110\/e=111:=by
 grind [Mk.do]
theorem sB{nm d:Bs}(h:m.ahead nm d=.error e):e=110\/e=111:=by
 grind [Mk.ahead,rL]
theorem Jg{j:Bs}(h:m.v7 j=.error e):e=110\/e=111:=by
 unfold Mk.v7 at h
 grind [sB]
theorem Jk{nm b:Bs}(h:m.hint nm b=.error e):e=110\/e=111:=by
 grind [Mk.hint,sB,rL]
theorem HJ{f:bn}(h:m.clean f=.error e):e=110\/e=111:=by
 grind [Mk.clean,Mk.od,Jg,rL,sB,Jk]
theorem AD{α:Type}{f:Mk->α->Except Int Mk}(hf:∀m x e,f m x=.error e->e=110\/e=111):∀(l:List α) (m:Mk) (e:Int),kR f l m=.error e->e=110\/e=111
 |[],m,e,h=>by cases h
 |x::r,m,e,h=>by
  unfold kR at h;split at h
  ·rename_i h1;cases h;exact hf _ _ _ h1
  ·exact AD hf r _ e h
theorem uU{l:List bn}{cap:Int}{ts:List UInt32}(h:fI l cap ts=.error e):e=110\/e=111:=by
 unfold fI at h
 split at h
 ·grind
 ·split at h
  ·rename_i h1;cases h;exact AD (λm x e h=>rL h) _ _ _ h1
  grind [AD,rb,HJ,qB,rL]
theorem s7{l:List bn}{cap:Int}{ts:List UInt32}{e:Int}(h:fI l cap ts=.error e):e≠0:=by
 grind [uU]
theorem SJ(hl:s.files.length<=50000000000)(pz:∀m,fI s.all s.cap []=.ok m->(s.ml m.steps).1.files.length<=100000000000):
 TR ab GG 66 #[au D] [bM D s] (cb (XL D (s6 s))):=by
 refine cg U λb β hb hG=>?_
 generalize bu:s6 s=res
 unfold s6 at bu
 refine tE D λdp=>?_
 have h2:=dp.le
 have h3:=dp.cap
 have Kc:=dp.vX
 have hu:=qD dp
 have ub:=oG s
 refine xA ?_
 intro b3
 refine xH (DZ GG D s) ?_
 refine xB ?_ ?_<;>intro hd
 ·exact Zn
 have hd:s.down=false:=hd
 rw[if_neg (by simp[hd])]at bu
 refine xS ?_
 refine ei hG (lW GG D s av) U U U aN.es ?_
 rintro v B ⟨a,c,rfl,rfl⟩
 dsimp only[ae,ai,ah]
 refine pE a c (l:=s.all) λq hq Z7 Ms=>?_
 refine xH (Cs GG D s) ?_
 rw[<-hq]at bu hu ub pz ⊢
 rw[aA]at ub ⊢
 refine xS ?_
 refine jl UInt32 RU 1 ?_
 refine ei hG (Iz s.cap a _ c q U av Ms av none 0 0 [] U de) U U U iv ?_
 intro v B hD
 have Np:=@vL (q.map (·.1)) s.cap []
 have hlo:=@AB (q.map (·.1)) s.cap []
 have XM:=@s7 (q.map (·.1)) s.cap []
 cases hp:fI (q.map (·.1)) s.cap []with
 |error e=>
  rw[hp]at hD bu;obtain⟨rfl,rfl⟩:=hD;subst bu;have h0:=XM hp;refine xD ?_;refine xA ?_;intro b5;refine aM 21 true U Rk (xS ?_);exact Yi
 |ok m=>
  rw[hp]at hD bu;have Iy:=hlo hp;have Ib:=Np hp;have pN:=pz m hp;obtain⟨ss,sa,sc,fa,fc,fx,iz,rfl,rfl⟩:=hD;dsimp only at bu;refine xD ?_;refine xA ?_;intro b5;refine dE sa db ss U U (λ_=>rfl) λ_=>?_;have sI:ss.length<=1000000000000:=by
   have:=Iy.steps
   grind
  refine ei hG (IB GG D s sa _ sc ss U sI (λx hx=>by
   have:=Ib.st x.1 bE;omega)) U U U iv ?_
  rintro v B ⟨rfl,rfl⟩;rw[iz];generalize s.ml m.steps=y at*;obtain⟨s1,n1,e1⟩:=y;dsimp only at bu pN ⊢;refine xD ?_;refine xB ?_ ?_<;>intro he
  ·have he:e1≠0:=by grind
   exact aK6
  have he:¬e1≠0:=bE;rw[if_neg he]at bu;subst bu;refine tE D λhok1=>?_;have e2:ss.map (·.1)=m.steps:=iz;refine xS ?_;refine nR [0,2,3] [2] ?_;refine xL [0,2,3] ?_;refine xS ?_;refine ei hG (XK D s1 pN hok1) U U U aN.es ?_;rintro v B ⟨K,rfl,rfl⟩;refine xD ?_;exact bO hb (.tmp U (.gX U iA (.tmp U .nil))) ⟨K,fa,m.gu,fc,U,U⟩
end
section
variable{fs:rZ}(G:bZ)(a:Option Addr)(n c:Nat)(xs:List Place)(v:Place)(K:Nat)(p:Place)(body:Bs)(s:Seen)(d:dR)
instance:wO ab 3 (.int .i64 0):=⟨by kernel_rfl⟩
theorem am4(q:Place)(w:World):(Op.equal 153 (Place.v p) (Place.v q)).run ab w=.ok (p==q) w:=by
 unfold Op.equal;have h:=VH 9998 p.qK.toNat q.qK.toNat p.at_ q.at_ p.len q.len w;rw[vJ]at h;exact h
theorem Lc(x:Place):∀(es:List MapEntry) (ks:List Place) (i:Nat) (w:World),es.map (·.key)=ks.map Place.v->
 (Instr.findAsking 153 (Place.v x) es i).run ab w=.ok ((ks.findIdx? (·=x)).bind λj=>(es[j]?).map λe=>(i+j,e.val)) w
 |[],[],i,w,_=>by simp[Instr.findAsking]
 |[],_::_,_,_,h=>by simp at h
 |_::_,[],_,_,h=>by simp at h
 |e::es,y::ks,i,w,h=>by
  simp only[aK,List.cons.injEq]at h;obtain⟨h1,h2⟩:=h;simp only[Instr.findAsking,h1,aU,am4,aC];by_cases ZU:x=y
  ·subst ZU;simp[List.findIdx?_cons]
  ·have hyx:¬y=x:=λh=>ZU h.symm;have hb:(x==y)=false:=bE;simp only[hb,bY,if_false];rw[Lc x es ks (i+1) w h2,List.findIdx?_cons];exact az1
theorem AE:Keyed ab 153 Place.v:=by
 refine⟨λe x w=>?_,λx es ks w h=>?_,λx w=>?_⟩
 ·rw[show(10000:Nat)=9999+1 from rfl,gv];simp only[aU,bC Tryz.underlying153,aC];have c1:∀(t:Nat) (kk:IntKind) (v:Int) (_:ab.underlying t=some (.int kk)),(gv e 9999 t (.int kk v)).run ab w=.ok () w:=Wx;have p0:=jL (w:=w) 139 0 x.cs.toArray nH;have p1:=jL (w:=w) 3 1 x.cs.toArray nH;have p2:=jL (w:=w) 3 2 x.cs.toArray nH;simp at p0 p1 p2;simp[p0,p1,p2,c1 139 .u32 _ fg,c1 3 .i64 _ ed]
 ·simp only[Instr.findKey,aU,bC Tryz.underlying153,aC];cases es with
  |nil=>
   exact bD6
  |cons e0 es0=>
   have hn:∀fs,Instr.findNow (.struct fs) (Place.v x) (e0::es0) 0=none:=bb2;rw[hn];have:=Lc x (e0::es0) ks 0 w h;simpa using this
 ·have:Instr.sameBits 10000 (Place.v x) (Place.v x)=true:=by
   rw[show(10000:Nat)=9998+1+1 from rfl];generalize 9998=n;simp[Instr.sameBits]
  simp[Instr.keyThatStays,this]
theorem am5(hn:xs.length=n)(hs:n<=1099511627776):
 TR ab G 462 #[.slice a n c,.agg v.cs.toArray] [bV (bp Place.cs) 3 a xs] (cT (aX (cy (λy=>v==y) 0 xs))):=by
 refine aW U λb β hb hG=>?_
 refine xP ?_
 intro b3
 refine eT [0,3] [] (ι:={i:Nat // i<=n/\cy (λy=>v==y) 0 xs=cy (λy=>v==y) i (xs.drop i)}) (λi q_=>(7,aX n)::(8,aX i.1)::q_) (λi q_=>q_) (λi=>n - i.1) ⟨0,al _,U⟩ ?_
 rintro⟨i,hi,hE⟩ ih
 dsimp only
 refine xB ?_ ?_<;>intro h
 ·have hi:i<xs.length:=by grind
  rw[jt _ xs i hi]at hE;refine xS ?_;refine eR 3 [0] ?_;refine xL [0,1,2] ?_;refine xS ?_;refine cH U U U U U hi hn λbl o=>?_;generalize xs[i]=x at*;refine xS ?_;refine dF U U U U  ?_;refine xB ?_ ?_<;>intro h2
  ·have h2:v=x:=by grind [vJ]
   rw[if_pos bE]at hE;exact bj9
  ·have h2:¬v=x:=by grind
   exact aJ1
 ·exact aW5
theorem XN(hn:xs.length=n)(hs:n<=1099511627776):
 TR ab G 386 #[.slice a n c,.agg v.cs.toArray] [bV (bp Place.cs) 3 a xs] (cT (.bool (xs.contains v))):=by
 refine aW U λb β hb hG=>?_
 refine xP ?_
 intro b3
 refine xJ (am5 G a n c xs v hn hs) ?_
 exact bO hb (.tmps U) ⟨by simp only[lx,aX];rw[nt],U⟩
def plL(l:List Seen):List Place:=if rD l=true then((lM l).filter λs=> !s.open_).map (·.place)else[]
def SP:List Place->List Place
 |[]=>[]
 |x::r=>if x∈r then SP r else x::SP r
theorem Cw:∀(l:List Place) (x:Place),x∈SP l↔x∈l
 |[],_=>Iff.rfl
 |y::r,x=>by
  unfold SP;split
  ·rename_i h;rw[Cw r x,bK];exact⟨.inr,λh2=>h2.elim (λe=>e▸h) id⟩
  ·rw[bK,bK,Cw r x]
theorem AF:∀(l:List Place),(SP l).Nodup
 |[]=>List.nodup_nil
 |y::r=>by
  unfold SP;split
  ·exact AF r
  ·rename_i h;rw[gA,Cw];exact⟨h,AF r⟩
def dR.places(d:dR):List Place:=d.flatMap λx=>plL x.2
def dR.jV(d:dR):List Place:=uS (SP d.places)
def plK(fs:rZ)(p:Bs×Value):List Place:=plL (mZ fs p.1).2
theorem dR.Ee:d.places.length<=dI d:=by
 unfold dR.places dI;induction d with
 |nil=>exact ar _
 |cons x t iht=>
  rw[eQ,aG,aK,eC];have h1:(plL x.2).length<=x.2.length:=by
   unfold plL;split
   ·rw[aA];exact aj (dD _ _) (dD _ _)
   ·exact al _
  omega
def Uk(fl:Bool)(r:List Seen):List Place:=if fl=true then(r.filter λs=> !s.open_).map (·.place)else[]
theorem am7{d:dR}(hp:(FW fs).Perm d)(jd:(fs.map (·.1)).Nodup)(x:Place):(∃p∈jA fs,x∈plK fs p)↔x∈d.places:=by
 unfold dR.places;rw[List.mem_flatMap];constructor
 ·rintro⟨p,kL,hx⟩;obtain⟨y,hy,rfl⟩:=bj.1 kL;refine⟨(y.1,y.2.2),hp.mem_iff.1 (bj.2 ⟨y,hy,U⟩),?_⟩;unfold plK at hx;dsimp only at hx;rw[oe jd hy]at hx;exact hx
 ·rintro⟨y,hy,hx⟩;obtain⟨z,hz,rfl⟩:=bj.1 (hp.mem_iff.2 hy);refine⟨(z.1,vZ z.2),bj.2 ⟨z,hz,U⟩,?_⟩;unfold plK;dsimp only;rw[oe jd hz];exact hx
theorem mem_erase{α:Type}(S:List α)(i:Nat)(hi:i<S.length)(q:α->Prop):(∃p∈S,q p)↔q S[i]\/∃p∈S.eraseIdx i,q p:=by
 constructor
 ·rintro⟨p,hp,hq⟩;obtain⟨j,hj,rfl⟩:=List.getElem_of_mem hp;by_cases xG:j=i
  ·subst xG;exact .inl hq
  ·exact .inr ⟨S[j],List.mem_eraseIdx_iff_getElem.2 ⟨j,hj,xG,U⟩,hq⟩
 ·rintro(h|⟨p,hp,hq⟩)
  ·exact⟨_,aB hi,h⟩
  ·exact⟨p,List.mem_of_mem_eraseIdx hp,hq⟩
theorem XO(fl:Bool)(r:List Seen)(i:Nat)(h:i<r.length)(x:Place):x∈Uk fl (r.take (i+1))↔x∈Uk fl (r.take i)\/(fl=true/\r[i].open_=false/\x=r[i].place):=by
 unfold Uk;cases fl
 ·simp
 ·simp only[if_true,true_and];rw[Bx _ r i h];split
  ·rename_i ho;have ho:r[i].open_=false:=by simpa using ho
   rw[cq,cM];simp[ho]
  ·rename_i ho;have ho:¬r[i].open_=false:=by simpa using ho
   simp[ho]
def isI(v:Value):Prop:=∃c:Int,v=.int .i64 c
theorem AG(gE:dI d<=1000000000):TR ab G 283 #[au K] [gS K d] (cb λv B=>∃a c,v=.slice a d.jV.length c/\B=[own 153 3 a d.jV.length c (d.jV.flatMap Place.cs),gS K d]):=by
 refine cg U λb β hb hG=>?_;refine zP K λM fs hp dp jd=>?_;have sE:=am7 hp jd;refine xS ?_;refine qR Place.v U U λwb=>xS ?_;refine rh U U U λr=>xS ?_;refine eT [0,3,14] [0,0] (ι:={q:List (Bs×Value)×Option (Bs×Value)×List (Place×Value) // q.1.Sublist (jA fs)/\(q.2.2.map λy:Place×Value=>y.1).Nodup/\(∀y∈q.2.2,isI y.2)/\∀x:Place,(x∈(q.2.2.map λy:Place×Value=>y.1)\/∃p∈q.1,x∈plK fs p)↔x∈d.places}) (λq q_=>q_) (λq q_=>FF ao r M (jA fs) q.1.1 q.1.2.1::mp Place.v wb q.1.2.2::q_) (λq=>q.1.1.length) ⟨(jA fs,none,[]),List.Sublist.refl _,List.nodup_nil,λy hy=>(by simp at hy),λx=>(by rw[<-sE x];simp)⟩ ?_;rintro⟨⟨S,ko,W⟩,hS,hWn,hWi,hW⟩ ih;dsimp only at hS hWn hWi hW ih ⊢;refine xS ?_;refine wk U U U (λhS0=>?_) (λi hi=>?_)
 ·subst hS0;have hW:∀x,x∈W.map (·.1)↔x∈SP d.places:=λx=>by rw[Cw,<-hW x];simp
  have wq:(W.map (·.1)).Perm (SP d.places):=(List.perm_ext_iff_of_nodup hWn (AF _)).2 hW;refine xS ?_;refine zL r ?_;refine wF K M fs hp dp ?_;refine bw (VE G wb) ?_;rintro v B ⟨p,rfl,rfl⟩;refine xD ?_;have hplen:=d.Ee;have hdl:(SP d.places).length<=d.places.length:=by
   have:∀l:List Place,(SP l).length<=l.length:=aD9;exact this _
  have hWl:=wq.length_eq;refine jc [bx p 502 [.map (some wb)],mp Place.v wb W] ?_;refine bw (N8 G 453 [au p] _ _ _ (VF G p wb W) (λpre ⟨post,B4⟩=>?_) (λys B4=>?_)) ?_
  ·have:=B4.length_eq;simp at this hWl;omega
  ·have:=B4.length_eq;simp at this hWl;omega
  rintro v B ⟨ys,yz,a,c,rfl,rfl⟩;have wx:uS ys=d.jV:=Xl (yz.trans wq);rw[wx];refine xD ?_;exact bO hb (.tmps U) ⟨a,c,U,U⟩
 ·have iq:S[i]∈jA fs:=hS.subset (aB hi);have pz:(S.eraseIdx i).length<S.length:=bl4;have hfe:=λx=>mem_erase S i hi (λp=>x∈plK fs p);have RJ:(S.eraseIdx i).Sublist (jA fs):=(List.eraseIdx_sublist S i).trans hS;generalize S.eraseIdx i=S2 at*;refine xS ?_;refine zO U U U ?_;generalize S[i]=pd at*;obtain⟨x,hx,hxe⟩:=bj.1 iq;have Uj:=oe jd hx;subst hxe;have hfe:∀y,(∃p∈S,y∈plK fs p)↔y∈plL x.2.2\/∃p∈S2,y∈plK fs p:=λy=>by
   rw[hfe y,show plK fs (x.1,vZ x.2)=plL x.2.2 from by unfold plK;dsimp only;rw[Uj]]
  obtain⟨key,e⟩:=x;dsimp only at hfe Uj ⊢;have hg:kQ d key=e.2:=bl5;have Su:=r6 d key dp.nd;rw[hg]at Su;refine xS ?_;refine aR6 r λit hit=>?_;have hT:=Jh (GR G K M fs d hp dp jd key gE) bf0 hit.HV;refine bw hT ?_;rintro v B ⟨B',⟨a,c,rfl,rfl⟩,rfl⟩;dsimp only[ae,ai,ah];refine aV1 r M hit ?_;rw[hg];have N7:(lM e.2).length<=e.2.length:=dD _ _;have tJ:plL e.2=Uk (rD e.2) (lM e.2):=U;rw[tJ]at hfe;generalize rD e.2=fl at*;generalize lM e.2=rs at*;refine dE a Seen.cs rs U U (λ_=>rfl) λhc=>xS ?_;refine eT [0,3,14,6,25] [4] (ι:={q:Nat×List (Place×Value) // q.1<=rs.length/\(q.2.map λy:Place×Value=>y.1).Nodup/\(∀y∈q.2,isI y.2)/\∀x:Place,x∈(q.2.map λy:Place×Value=>y.1)↔x∈W.map (·.1)\/x∈Uk fl (rs.take q.1)}) (λq q_=>(26,aX rs.length)::(27,aX q.1.1)::q_) (λq q_=>mp Place.v wb q.1.2::q_) (λq=>rs.length - q.1.1) ⟨(0,W),al _,hWn,hWi,λx=>by simp[Uk]⟩ ?_;rintro⟨⟨j,V⟩,hj,hVn,hVi,hV⟩ pG;dsimp only at hj hVn hVi hV pG ⊢;refine xB ?_ ?_<;>intro h
  ·have hj:j<rs.length:=by simp at h;omega
   have wx:=XO fl rs j hj;refine xS ?_;refine cH U U U U U hj U λbl o=>?_;generalize rs[j]=s at*;refine xS ?_;refine dF U U U U (xS ?_);refine jC U U λb8=>?_;cases fl
   ·have wx:∀x,x∈Uk false (rs.take (j+1))↔x∈Uk false (rs.take j):=λx=>by rw[wx x];simp
    exact aH3
   ·refine xB ?_ ?_<;>intro ho
    ·have ho:s.open_=false:=by simpa using ho
     obtain⟨cn,Uf⟩:isI ((fB V s.place).getD (.int .i64 0)):=R2 hVi ⟨0,U⟩;have wx:∀x,x∈Uk true (rs.take (j+1))↔x∈Uk true (rs.take j)\/x=s.place:=λx=>by rw[wx x];simp[ho]
     refine xS ?_;refine eR 3 [0] ?_;refine xL [0,1,2] ?_;refine dA U U U U U ?_ ?_
     ·refine qS (zv:=.int .i64 0) s.place AE U U U U (λw _=>wO.run (P:=ab) (t:=3) inferInstance w) ?_;rw[Uf];refine xS ?_;refine dA U U U U U ?_ ?_
      ·refine Gf U U U U U (xS ?_);refine CQ s.place AE U U U U λjj st Fm=>xS ?_;exact mz2
      ·refine CQ s.place AE U U U U λjj st Fm=>xS ?_;exact bw6
     ·refine CQ s.place AE U U U U λjj st Fm=>xS ?_;refine dA U U U U U ?_ ?_
      ·refine zQ (zv:=.int .i64 0) s.place AE U U U U (λw=>wO.run (P:=ab) (t:=3) inferInstance w) ?_;rw[mV,if_pos U,bX];rw[Uf]at Fm ⊢;refine xS ?_;exact bw6
      ·refine xS ?_;refine zQ (zv:=.int .i64 0) s.place AE U U U U (λw=>wO.run (P:=ab) (t:=3) inferInstance w) ?_;rw[mV,if_pos U,bX];rw[Uf]at Fm ⊢;exact ae2
    ·have ho:¬s.open_=false:=by simpa using ho
     have wx:∀x,x∈Uk true (rs.take (j+1))↔x∈Uk true (rs.take j):=λx=>by rw[wx x];simp[ho]
     exact aH3
  ·have fw:j=rs.length:=by simp at h;omega
   subst fw;rw[bh]at hV;refine xS ?_;exact X.W (ih ⟨(S2,some (key,vZ e),V),RJ,hVn,hVi,λx=>by dsimp only;rw[hV x,or_assoc,<-hfe x,hW x]⟩ pz)
def eU(p:Place)(body:Bs)(s:Seen):Seen×Bool:=if s.open_=true\/s.place≠p then(s,true)else({s with open_:=true,body:=body},Ap s body)
theorem Of(b4 b5:Nat)(p:Place)(body:Bs)(s:Seen)(hs:s.may=true):
 TR ab G 388 #[.agg s.cs.toArray,au b4,au b5] [cV [bx b4 153 p.cs,bx b5 9 [ao body]]] (cb λv B=>v=.tuple #[.agg (eU p body s).1.cs.toArray,.bool (eU p body s).2]/\B=[cV [bx b4 153 p.cs,bx b5 9 [ao body]]]):=by
 refine jr U λb β hb hG=>?_
 have hk:0<=s.kind/\s.key.length<=64:=by
  unfold Seen.may at hs;split at hs
  ·cases hs
  ·rename_i h;constructor
   ·refine Decidable.byContradiction λhh=>h (.inr (.inr (.inr ⟨by omega,by omega⟩)))
   ·refine Decidable.byContradiction λhh=>h (.inr (.inl av))
 refine kZ [bx b4 153 p.cs,bx b5 9 [ao body]] (xD ?_)
 refine xP ?_
 intro b3
 refine xA ?_
 intro b6
 have e0:eU p body s=if s.open_=true\/s.place≠p then(s,true)else({s with open_:=true,body:=body},Ap s body):=U
 generalize eU p body s=res at*
 refine xT 9 ?_ ?_<;>intro h1
 ·rw[if_pos (.inl h1)]at e0;exact bk9
 ·have h1:s.open_=false:=h1;refine xB ?_ ?_<;>intro h2
  ·have h2:s.place≠p:=by
    have h3:=vJ s.place p;intro hh;rw[hh]at h2 h3;have h4:(p==p)=true:=nH;rw[h4]at h3;simp[h3]at h2
   rw[if_pos (.inr h2)]at e0;exact bk9
  ·have h2:s.place=p:=by
    have h3:=vJ s.place p;have h4:(s.place==p)=true:=by rw[<-h3];simpa using h2
    simpa using h4
   rw[if_neg (by simp[h1,h2])]at e0;subst e0;refine xJ (Qe G s body hk.1 av) ?_;refine eR 2 [3] ?_;refine xL [0,1] ?_;exact Wb
theorem ID:(eU p body s).1.key=s.key:=by unfold eU;split<;>rfl
theorem za(hs:s.may=true)(h:(eU p body s).2=true):(eU p body s).1.may=true:=by
 unfold eU at h ⊢;split
 ·exact hs
 ·rename_i h1;rw[if_neg h1]at h;unfold Seen.may at hs ⊢;split at hs
  ·cases hs
  ·rename_i h2;split at hs
   ·cases hs
   ·rename_i h3;rw[if_neg h2,if_neg h3,if_pos U];exact h
def Ef(p:Place)(body:Bs)(l:List Seen):List Seen:=l.foldl (λacc s=>if(eU p body s).2=true then mc acc (eU p body s).1 else acc) []
def s8(key:Bs)(acc:List Seen)(D:dR):dR:=if acc=[]then D else(key,acc)::D
def uV(p:Place)(body:Bs)(P:dR):dR:=P.foldl (λD x=>s8 x.1 (Ef p body x.2) D) []
def dR.settled(d:dR)(p:Place)(body:Bs):dR:=d.filterMap λx=>if Ef p body x.2=[]then none else some (x.1,Ef p body x.2)
theorem Og(P:dR)(x:Bs×List Seen):uV p body (P++[x])=s8 x.1 (Ef p body x.2) (uV p body P):=by unfold uV;rw[List.foldl_append];rfl
theorem Eg(p:Place)(body:Bs):∀(P:dR) (D:dR) (k:Bs),k∈(P.foldl (λD x=>s8 x.1 (Ef p body x.2) D) D).map (·.1)->k∈P.map (·.1)\/k∈D.map (·.1)
 |[],D,k,h=>.inr h
 |x::r,D,k,h=>by
  rcases Eg p body r _ k h with h|h
  ·exact .inl (by simp only[aK,bK];exact .inr h)
  ·have h:k∈(s8 x.1 (Ef p body x.2) D).map (·.1):=h;unfold s8 at h;split at h
   ·exact .inr h
   ·simp only[aK,bK]at h;rcases h with rfl|h
    ·exact .inl nH
    ·exact .inr h
theorem Eh(p:Place)(body:Bs):∀(P:dR) (D:dR),(P.foldl (λD x=>s8 x.1 (Ef p body x.2) D) D).Perm (dR.settled P p body++D)
 |[],D=>fR _
 |x::r,D=>by
  refine(Eh p body r _).trans ?_;unfold dR.settled s8;rw[eI];by_cases h:Ef p body x.2=[]
  ·rw[if_pos h];simp only[h,if_true];exact fR _
  ·rw[if_neg h];simp only[h,if_false];exact ee
theorem SQ{key:Bs}{acc:List Seen}{D:dR}{s:Seen}(hk:key∉D.map (·.1))(hs:s.key=key):(s8 key acc D).take s=s8 key (mc acc s) D:=by
 have h1:kQ (s8 key acc D) key=acc:=by
  unfold s8;split
  ·rename_i h;unfold kQ;rw[List.find?_eq_none.2 (by intro x hx;simp only[decide_eq_true_eq];exact λhh=>hk (hh▸List.mem_map_of_mem hx)),h];rfl
  ·unfold kQ;simp
 have h2:jN (s8 key acc D) key=D:=by
  unfold s8;split
  ·exact lK hk
  ·unfold jN;rw[List.filter_cons];simp only[beq_self_eq_true,Bool.not_true,bY,if_false];exact lK hk
 unfold dR.take FX;rw[hs,h1,h2];unfold s8;rw[if_neg (GO _ _)]
theorem XP(l:List Seen)(i:Nat)(h:i<l.length):Ef p body (l.take (i+1))=if(eU p body l[i]).2=true then mc (Ef p body (l.take i)) (eU p body l[i]).1 else Ef p body (l.take i):=by
 unfold Ef;rw[sV _ _ l i h]
theorem Cx(p:Place)(body:Bs):∀(l acc:List Seen),(l.foldl (λacc s=>if(eU p body s).2=true then mc acc (eU p body s).1 else acc) acc).length<=acc.length+l.length
 |[],acc=>ar _
 |s::r,acc=>by
  rw[cY,ax];refine aj (Cx p body r _) ?_;split
  ·have:=N1 acc (eU p body s).1;omega
  ·omega
theorem Ld(key:Bs)(acc:List Seen)(D:dR):dI (s8 key acc D)=acc.length+dI D:=by
 unfold s8;split
 ·rename_i h;simp[h]
 ·unfold dI;simp
theorem G1(p:Place)(body:Bs):∀(P D:dR),dI (P.foldl (λD x=>s8 x.1 (Ef p body x.2) D) D)<=dI P+dI D
 |[],D=>by simp[dI]
 |x::r,D=>by
  rw[cY];refine aj (G1 p body r _) ?_;rw[Ld];have h1:=Cx p body x.2 [];have h2:dI (x::r)=x.2.length+dI r:=by unfold dI;simp
  unfold Ef;simp only[aR]at h1;omega
theorem Ei{α:Type}:∀(l:List α) (i:Nat) (h:i<l.length),l.Perm (l[i]::l.eraseIdx i)
 |x::r,0,_=>fR _
 |x::r,i+1,h=>by
  have:=(Ei r i BU).cons x;exact this.trans (eu _ _ _)
def klE(fs:rZ)(p:Bs×Value):Bs×List Seen:=(p.1,(mZ fs p.1).2)
theorem am8(jd:(fs.map (·.1)).Nodup):(jA fs).map (klE fs)=FW fs:=by
 unfold jA FW;rw[cz];apply bQ;intro x hx;show(x.1,(mZ fs x.1).2)=(x.1,x.2.2);rw[oe jd hx]
theorem am9(b4 b5:Nat)(p:Place)(body:Bs)(d:dR)(gE:dI d<=1000000000):
 TR ab G 387 #[au K,.func (.func 388) #[] #[au b4,au b5]] [gS K d,cV [bx b4 153 p.cs,bx b5 9 [ao body]]] (cb λv B=>v=.tuple #[]/\B=[gS K (d.settled p body),cV [bx b4 153 p.cs,bx b5 9 [ao body]]]):=by
 refine aW U λb β hb hG=>?_
 refine zP K λM fs hp dp jd=>xS ?_
 refine qR ao U U λN=>xS ?_
 refine ML (([]:rZ).map kA) [] U ?_
 refine X.cd (aN.trans (aN.es (A:=[bx K 234 [.map (some N)],mp ao N [],cV (([]:rZ).map kA)])) (ak6 (M:=N) (fs:=[]) (d:=[]) (fR _) ⟨List.nodup_nil,λx hx=>ua,λx hx=>ua⟩ _)) ?_
 simp only[List.append_eq,ai,ae]
 refine rh U U U λr=>xS ?_
 refine eT [0,1,20] [1,0] (ι:={q:List (Bs×Value)×Option (Bs×Value)×dR // q.1.Sublist (jA fs)/\(q.2.2++q.1.map (klE fs)).Perm d}) (λq q_=>q_) (λq q_=>gS K (uV p body q.1.2.2)::FF ao r M (jA fs) q.1.1 q.1.2.1::q_) (λq=>q.1.1.length) ⟨(jA fs,none,[]),List.Sublist.refl _,by rw[ai,am8 jd];exact hp⟩ ?_
 rintro⟨⟨S,ko,P⟩,hS,hP⟩ ih
 dsimp only at hS hP ih ⊢
 refine xS ?_
 refine wk U U U (λhS0=>?_) (λi hi=>?_)
 ·subst hS0;simp only[ie,ah]at hP;refine xS ?_;have hk:=Eh p body P [];rw[ah]at hk;have hk2:(uV p body P).Perm (d.settled p body):=hk.trans (hP.filterMap _);refine zP K λM2 fs2 tK tZ hnd2=>?_;refine wF K M2 fs2 (d:=d.settled p body) (tK.trans hk2) ⟨((hk2.map _).nodup_iff).1 tZ.nd,λx hx=>tZ.may x (hk2.mem_iff.2 hx),λx hx=>tZ.ne x (hk2.mem_iff.2 hx)⟩ ?_;exact xF
 ·have iq:S[i]∈jA fs:=hS.subset (aB hi);have pz:(S.eraseIdx i).length<S.length:=bl4;have hep:=Ei S i hi;have RJ:(S.eraseIdx i).Sublist (jA fs):=(List.eraseIdx_sublist S i).trans hS;generalize S.eraseIdx i=S2 at*;refine xS ?_;refine zO U U U ?_;generalize S[i]=pd at*;obtain⟨x,hx,hxe⟩:=bj.1 iq;have Uj:=oe jd hx;subst hxe;have hP2:((P++[(x.1,x.2.2)])++S2.map (klE fs)).Perm d:=by
   refine List.Perm.trans ?_ hP;have h1:=hep.map (klE fs);rw[aK,show klE fs (x.1,vZ x.2)=(x.1,x.2.2)from by unfold klE;dsimp only;rw[Uj]]at h1;rw[bT];exact(h1.symm).append_left P
  obtain⟨key,⟨a,c⟩,l⟩:=x;dsimp only at hP2 Uj ⊢;have hPk:(key∉P.map (·.1))/\(∀s∈l,s.key=key/\s.may=true)/\dI P+l.length<=dI d:=by
   refine⟨?_,?_,?_⟩
   ·have h1:=((hP2.map (·.1)).nodup_iff).2 dp.nd;rw[bT,cq,eP]at h1;intro hh;exact h1.2.2 key hh key nH U
   ·exact dp.may (key,l) (hP2.mem_iff.1 nH)
   ·have h1:=Sr hP2;rw[<-h1];unfold dI;simp only[cq,List.sum_append,aK,ie,eC,List.sum_nil];omega
  obtain⟨hPk,qO,hPs⟩:=hPk;have hkk:key∉(uV p body P).map (·.1):=by
   intro hh;rcases Eg p body P [] key hh with h|h
   ·exact hPk h
   ·simp at h
  have hks:=G1 p body P [];have hks:dI (uV p body P)<=dI P:=by simpa[dI,uV]using hks
  have wx:=Og p body P (key,l);dsimp only at wx;refine Ce fs key jd ?_;rw[Uj];dsimp only[vZ];refine xS ?_;refine eT [0,1,20,25] [3] (ι:={j:Nat // j<=l.length}) (λj q_=>(26,aX l.length)::(27,aX j.1)::q_) (λj q_=>gS K (s8 key (Ef p body (l.take j.1)) (uV p body P))::q_) (λj=>l.length - j.1) ⟨0,al _⟩ ?_;rintro⟨j,hj⟩ pG;dsimp only;refine xB ?_ ?_<;>intro h
  ·have hj:j<l.length:=by simp at h;omega
   have Su:=XP p body l j hj;have hgl:=Cx p body (l.take j) [];have Ib:=qO l[j] (aB hj);have zX:=ID p body l[j];have hmy:=za p body l[j] Ib.2;have iz:=Of G b4 b5 p body l[j] Ib.2;refine xS ?_;refine gV a av λbl Fh=>?_;subst Fh;refine du U U U U U hj (xS ?_);refine gN (bo:=Seen.cs) (l:=l) j U U U U (λ_=>rfl) nH hj  ?_;refine xA ?_;intro b8;refine gW (fst:=[]) (us:=[gn l[j].cs.toArray]) (cap:=[au b4,au b5]) hG iz U U U U aN.es ?_;rintro v B ⟨rfl,rfl⟩;dsimp only[ae,ai,ah];generalize eU p body l[j]=q at*;refine xA ?_;intro b9;refine xB ?_ ?_<;>intro hq
   ·have hq:q.2=true:=hq;rw[if_pos hq]at Su;have vy:=SQ (acc:=Ef p body (l.take j)) hkk (zX.trans Ib.1);rw[<-Su]at vy;have hps:=Ld key (Ef p body (l.take j)) (uV p body P);have hgl:(Ef p body (l.take j)).length<=l.length:=aj hgl bB;refine xI (Qg G K (s8 key (Ef p body (l.take j)) (uV p body P)) q.1 (hmy hq) av) ?_;rw[vy];refine xD ?_;exact a18
   ·have hq:¬q.2=true:=by simp[hq]
    rw[if_neg hq]at Su;refine xS ?_;refine X.less (pG ⟨j+1,by omega⟩ gm) (YX U U U U U (eN U pH)) ?_;dsimp only;rw[Su];exact ay
  ·have fw:j=l.length:=by simp at h;omega
   subst fw;rw[bh,<-wx];refine xS ?_;refine x9 fs key jd Uj ?_;exact X.W (ih ⟨(S2,some (key,.slice a l.length c),P++[(key,l)]),RJ,hP2⟩ pz)
def dR.settle(d:dR)(p:Place)(body:Bs):dR×Int:=if p∈d.jV then(d.settled p body,0)else(d,81)
theorem xh:d.jV.length<=dI d:=by
 unfold dR.jV;rw[GS];have:∀l:List Place,(SP l).length<=l.length:=aD9;exact aj (this _) d.Ee
theorem Ej(gE:dI d<=1000000000):
 TR ab G 290 #[au K,.agg p.cs.toArray,ao body] [gS K d] (cb λv B=>v=.int .i64 (d.settle p body).2/\B=[gS K (d.settle p body).1]):=by
 refine jr U λb β hb hG=>?_
 refine xP ?_
 intro b4
 refine xP ?_
 intro b5
 have N7:=xh d
 refine nR [0,2] [1] ?_
 refine xL [0,2] ?_
 refine xS ?_
 refine bw (AG G K d gE) ?_
 rintro v B ⟨a,c,rfl,rfl⟩
 dsimp only[ae,ai,ah]
 unfold dR.settle
 refine dE a Place.cs d.jV U U (λ_=>rfl) λhc=>?_
 refine xJ (XN G a d.jV.length c d.jV p U av) ?_
 refine xB ?_ ?_<;>intro h1
 ·have h1:¬p∈d.jV:=by simpa using h1
  rw[if_neg h1];exact xR
 ·have h1:p∈d.jV:=by simpa using h1
  rw[if_pos h1];refine xS ?_;refine jc [bx b4 153 p.cs,bx b5 9 [ao body]] ?_;refine xE (am9 G K b4 b5 p body d gE) ?_;exact xR
def r8(r:Rec):Bool:=(r.kind==1||r.kind==2)&&ca (fj r)==0
theorem XQ(r:Rec):TR ab G 417 #[.agg r.cs.toArray] [] (cT (.bool (r8 r))):=by
 refine cg U λb β hb hG=>?_;refine xP ?_;intro b1;have e0:r8 r=((r.kind==1||r.kind==2)&&ca (fj r)==0):=U;generalize r8 r=res at*;refine xT 8 ?_ ?_<;>intro h1
 ·have h1:¬r.kind=1:=by simpa using h1
  refine xB ?_ ?_<;>intro h2
  ·have h2:¬r.kind=2:=by simpa using h2
   refine xS ?_;exact bO hb (.tmps U) ⟨by rw[e0];simp[lx,h1,h2],U⟩
  ·have h2:r.kind=2:=by simpa using h2
   refine xS ?_;refine bw (oE G (fj r)) ?_;intro v B hq;obtain⟨a,n,c,rfl,hn,hB⟩:=sy hq;refine xS ?_;exact bO hb (.tmps U) ⟨by rw[e0];simp[lx,h2],U⟩
 ·have h1:r.kind=1:=by simpa using h1
  refine xS ?_;refine bw (oE G (fj r)) ?_;intro v B hq;obtain⟨a,n,c,rfl,hn,hB⟩:=sy hq;refine xS ?_;exact bO hb (.tmps U) ⟨by rw[e0];simp[lx,h1],U⟩
instance:wO ab 151 (.agg Rec.zero.cs.toArray):=⟨by kernel_rfl⟩
abbrev AH:=List (Bs×Rec)
@[reducible] def zb(M:AH):List (Bs×Value):=M.map λx=>(x.1,.agg x.2.cs.toArray)
def Ek(M:AH)(k:Bs):Option Rec:=(M.find? (·.1=k)).map (·.2)
def Le(M:AH)(k:Bs)(r:Rec):AH:=
 match M.findIdx? (·.1=k)with
 |some i=>M.set i (k,r)
 |none=>M++[(k,r)]
theorem G2(M:AH)(k:Bs):fB (zb M) k=(Ek M k).map λr=>.agg r.cs.toArray:=by
 unfold fB Ek;induction M with
 |nil=>rfl
 |cons x r ih=>
  simp only[zb,aK,List.find?_cons]at ih ⊢;by_cases h:x.1=k
  ·simp[h]
  ·simp only[h,decide_false];exact ih
theorem SS(M:AH)(k:Bs)(r:Rec):gJ (zb M) k (.agg r.cs.toArray)=zb (Le M k r):=by
 unfold gJ Le;have h:(zb M).findIdx? (λx=>x.1=k)=M.findIdx? (λx=>x.1=k):=by
  rw[zb,List.findIdx?_map];rfl
 rw[h];split
 ·rename_i i hi;rw[hi];simp only[zb,eZ]
 ·rename_i hi;rw[hi];simp[zb]
def ki(M:AH)(r:Rec):AH:=
 if r8 r=true then
  match Ek M r.key with
  |none=>Le M r.key r
  |some o=>if 0<pX r o then Le M r.key r else M
 else M
def s9(l:List Rec):AH:=l.foldl ki []
def ny(M:AH)(ks:List Bs):List Rec:=ks.map λk=>(Ek M k).getD .zero
def mw(l:List Rec):List Rec:=ny (s9 l) (sortStr ((s9 l).map (·.1)))
theorem Lf(M:AH)(k:Bs)(r:Rec):(Le M k r).length<=M.length+1:=by
 unfold Le;split<;>simp
theorem IE(M:AH)(r:Rec):(ki M r).length<=M.length+1:=by
 unfold ki;split
 ·split
  ·exact Lf _ _ _
  ·split
   ·exact Lf _ _ _
   ·exact gk _
 ·exact gk _
theorem uW:∀(l:List Rec) (M:AH),(l.foldl ki M).length<=M.length+l.length
 |[],M=>ar _
 |x::r,M=>by
  have h1:=uW r (ki M x);have h2:=IE M x;rw[cY,ax];omega
theorem an0(xs:List Rec)(hn:xs.length=n)(hs:n<=1000000000):
 TR ab G 336 #[.slice a n c] [bV (bp Rec.cs) 4 a xs] (cb λv B=>∃a2 c2,v=.slice a2 (mw xs).length c2/\B=[own 151 4 a2 (mw xs).length c2 ((mw xs).flatMap Rec.cs)]):=by
 refine cg U λb β hb hG=>xS ?_
 refine qR ao U U λbm=>xS ?_
 refine eT [3,12] [0] (ι:={i:Nat // i<=n}) (λi q_=>(13,aX n)::(14,aX i.1)::q_) (λi q_=>mp ao bm (zb ((xs.take i.1).foldl ki []))::q_) (λi=>n - i.1) ⟨0,al _⟩ ?_
 rintro⟨i,hi⟩ ih
 dsimp only
 refine xB ?_ ?_<;>intro h
 ·have hi:i<xs.length:=by simp at h;omega
  have j6:=sV ki [] xs i hi
  refine xS ?_
  refine cH U U U U U hi hn λbl o=>?_
  generalize xs[i]=x at*
  generalize(xs.take i).foldl ki []=M at*
  refine xS ?_
  refine dF U U U U  ?_
  refine xA ?_
  intro b5
  refine xJ (XQ G x) ?_
  refine xB ?_ ?_<;>intro hv
  ·have hv:¬r8 x=true:=by simpa using hv
   have e1:ki M x=M:=by unfold ki;rw[if_neg hv]
   rw[e1]at j6
   refine xS ?_
   refine X.less (ih ⟨i+1,by omega⟩ (by dsimp only;omega)) (EL U U U (eN U (by simp[aX]))) ?_
   dsimp only;rw[j6];exact ay
  ·have hv:r8 x=true:=by simpa using hv
   have e1:ki M x=match Ek M x.key with
    |none=>Le M x.key x
    |some o=>if 0<pX x o then Le M x.key x else M:=by unfold ki;rw[if_pos hv]
   refine xS ?_
   refine MO x.key U U U U ?_
   rw[G2]
   cases hr:Ek M x.key with
   |none=>
    rw[hr]at e1
    dsimp only at e1
    rw[e1]at j6
    dsimp only[Option.map_none,Option.getD_none,Option.isSome_none]
    refine xA ?_
    intro b6
    refine qi x.key bW U U U U ?_
    rw[SS]
    refine xS ?_
    refine X.less (ih ⟨i+1,by omega⟩ (by dsimp only;omega)) (EL U U U (eN U (by simp[aX]))) ?_
    dsimp only;rw[j6];exact ay
   |some o=>
    rw[hr]at e1
    dsimp only at e1
    dsimp only[bH,bX,Option.isSome_some]
    refine xA ?_
    intro b6
    refine xB ?_ ?_<;>intro hc
    ·have hc:0<pX x o:=by simpa using hc
     rw[if_pos hc]at e1
     rw[e1]at j6
     refine xS ?_
     refine qi x.key bW U U U U ?_
     rw[SS]
     refine xS ?_
     refine X.less (ih ⟨i+1,by omega⟩ (by dsimp only;omega)) (EL U U U (eN U (by simp[aX]))) ?_
     dsimp only;rw[j6];exact ay
    ·have hc:¬0<pX x o:=by simpa using hc
     rw[if_neg hc]at e1
     rw[e1]at j6
     refine xS ?_
     refine X.less (ih ⟨i+1,by omega⟩ (by dsimp only;omega)) (EL U U U (eN U (by simp[aX]))) ?_
     dsimp only;rw[j6];exact ay
 ·have fw:i=n:=by simp at h;omega
  subst fw
  rw[aD (by omega)]
  clear ih
  have hMl:(s9 xs).length<=xs.length:=by have:=uW xs [];simpa[s9]using this
  unfold mw
  rw[show xs.foldl ki []=s9 xs from rfl]
  generalize s9 xs=M at*
  have hkm:(zb M).map (·.1)=M.map (·.1):=by simp[zb,Function.comp_def]
  refine xS ?_
  refine bw (VC G bm) ?_
  rintro v B ⟨p,rfl,rfl⟩
  refine xD ?_
  refine jc [bx p 532 [.map (some bm)],mp ao bm (zb M)] ?_
  refine bw (qw G 475 [au p] _ _ _ (VD G p bm (zb M)) (λpre ⟨post,B4⟩=>?_) (λys B4=>?_)) ?_
  ·have:=B4.length_eq
   rw[hkm]at this
   simp at this;omega
  ·have:=B4.length_eq
   rw[hkm]at this
   simp at this;omega
  rintro v B ⟨ys,yz,a2,c2,rfl,rfl⟩
  have wx:sortStr ys=sortStr (M.map (·.1)):=ob (hkm▸yz)
  rw[wx]
  dsimp only[ae,ai,ah]
  have Ud:(sortStr (M.map (·.1))).length<=1000000000:=by rw[jh,aA];omega
  generalize sortStr (M.map (·.1))=ks at*
  refine dE a2 (λk:Bs=>[ao k]) ks U U (λ_=>rfl) λhc=>?_
  refine kZ [bx p 532 [.map (some bm)],mp ao bm (zb M)] (xD ?_)
  refine X.cd (ej 151 4 _) ?_
  refine eT [3,43] [1,3,0] (ι:={q:Nat×Option Addr×Nat // q.1<=ks.length}) (λq q_=>(8,.slice q.1.2.1 (ny M (ks.take q.1.1)).length q.1.2.2)::(44,aX ks.length)::(45,aX q.1.1)::q_) (λq q_=>own 151 4 q.1.2.1 (ny M (ks.take q.1.1)).length q.1.2.2 ((ny M (ks.take q.1.1)).flatMap Rec.cs)::q_) (λq=>ks.length - q.1.1) ⟨(0,none,0),al _⟩ ?_
  rintro⟨⟨i,a3,c3⟩,hi⟩ ih
  dsimp only at hi ⊢
  have Fj:(ny M (ks.take i)).length<=ks.length:=by unfold ny;rw[aA,cB];omega
  refine xB ?_ ?_<;>intro h
  ·have hi:i<ks.length:=by simp at h;omega
   have j6:ny M (ks.take (i+1))=ny M (ks.take i)++[(Ek M ks[i]).getD .zero]:=by
    unfold ny
    rw[aY,cq,aV hi];rfl
   generalize hr:ny M (ks.take i)=r at*
   refine xS ?_
   refine cH U U U U U hi U λbl o=>?_
   generalize ks[i]=k at*
   refine xS ?_
   refine rJ k U U U U ?_
   rw[G2,show((Ek M k).map λr=>gn r.cs.toArray).getD (.agg Rec.zero.cs.toArray)=.agg ((Ek M k).getD .zero).cs.toArray from by cases Ek M k<;>rfl]
   generalize(Ek M k).getD .zero=y at*
   refine xZ ?_
   intro b7
   refine eD (y) U U U U (by first|rfl|assumption) rfl (by rfl) (by rfl) (by rfl) (by rfl) (by rfl) (by omega) λa8 c8=>xS ?_
   refine X.less (ih ⟨(i+1,a8,c8),by dsimp only;omega⟩ (by dsimp only;omega)) ?_ ?_
   ·dsimp only
    rw[j6]
    exact(Y7 U U U U (eN U (by simp[aX])))
   ·dsimp only
    rw[j6]
    exact ay
  ·have fw:i=ks.length:=by simp at h;omega
   subst fw
   rw[bh]
   refine xS ?_
   exact bO hb (.tmps U) ⟨a3,c3,U,U⟩
end
section
variable{F:List az}(n:UInt32)(G:bZ)(a:Option Addr)
structure Src where
 no:UInt32
 data:Bs
 uX:Bool
 fk:List Ptr
abbrev SI:=Src×Nat×(Option Addr×Nat)×(Option Addr×Nat)
@[reducible] def SI.cs(x:SI):List Value:=[.int .u32 x.1.no.toNat,.slice x.2.2.1.1 x.1.data.length x.2.2.1.2,.bool x.1.uX,.slice x.2.2.2.1 x.1.fk.length x.2.2.2.2]
def r9(x:SI):az:=bx x.2.1 283 x.cs
@[reducible] def El(x:SI):List Value:=[au x.2.1]
def zc(q:List SI):az:=
 ro λr=>∀x∈q,(x.1.data.length<=x.2.2.1.2/\(x.2.2.1.1=none->x.1.data.length=0/\x.2.2.1.2=0)/\vW RB 1 x.2.2.1.1 x.1.data r)/\vW (bp Ptr.cs) 5 x.2.2.2.1 x.1.fk r
instance EM.zc(Hs A r F:List az)(q:List SI)[h1:FP Hs (zc q) r][h2:EM Hs A F]:EM Hs (zc q::A) F:=⟨EM.iL h1.out h2.out⟩
section
variable {b:Frame}{β:bS}{k:Kt}{E:Env}{Hs:List az}{R:Ending->List az->Prop}{cc:Option (Array Oper×List Oper)}
theorem Ql(q:List SI)(i:Nat)(h:i<q.length):(q.map r9).Perm (r9 q[i]::(q.eraseIdx i).map r9):=by
 rw[<-aK];refine List.Perm.map r9 ?_;rw[List.eraseIdx_eq_take_drop_succ];have h2:q=q.take i++q[i]::q.drop (i+1):=by rw[<-aP h,cP]
 exact(List.Perm.of_eq h2).trans ee
theorem CP(q:List SI)(i:Nat)(h:i<q.length)[hf:FP Hs (cV (q.map r9)) F](hx:X ab b β cc k E (bx q[i].2.1 283 q[i].cs::cV ((q.eraseIdx i).map r9)::F) R):X ab b β cc k E Hs R:=
 X.cd (hf.out.trans ((gG _ F).trans ((iQ (di (Ql q i h)) F).trans (aN.cons _ (gp _ F))))) hx
theorem yh(q:List SI)(i:Nat)(h:i<q.length)(y:SI)[hE:ES Hs [bx y.2.1 283 y.cs,cV ((q.eraseIdx i).map r9)] F](hx:X ab b β cc k E (cV ((q.set i y).map r9)::F) R):X ab b β cc k E Hs R:=by
 refine X.cd (hE.out.trans ?_) hx
 refine(aN.cons _ (gG _ F)).trans ?_
 show aN ((bx y.2.1 283 y.cs::(q.eraseIdx i).map r9)++F) _
 refine aN.trans (iQ (di (b:=(q.set i y).map r9) ?_) F) (gp _ F)
 have h2:=Ql (q.set i y) i BU
 rw[List.getElem_set_self,List.eraseIdx_set_eq]at h2
 exact h2.symm
theorem UK(q:List SI)(i:Nat)(h:i<q.length)[hE:ES Hs [bx q[i].2.1 283 q[i].cs,cV ((q.eraseIdx i).map r9)] F](hx:X ab b β cc k E (cV (q.map r9)::F) R):X ab b β cc k E Hs R:=
 yh q i h q[i] (by rw[List.set_getElem_self];exact hx)
theorem av4(q:List SI)(x:SI)(hx:x∈q)[hf:FP Hs (zc q) F](h:x.1.data.length<=x.2.2.1.2->(x.2.2.1.1=none->x.1.data.length=0/\x.2.2.1.2=0)->X ab b β cc k E (bV RB 1 x.2.2.1.1 x.1.data::bV (bp Ptr.cs) 5 x.2.2.2.1 x.1.fk::Hs) R):X ab b β cc k E Hs R:=by
 refine jo λw hs=>?_
 have h1:=Sat.ro (hs.cd hf.out) x hx
 have h2:aN Hs (bV RB 1 x.2.2.1.1 x.1.data::bV (bp Ptr.cs) 5 x.2.2.2.1 x.1.fk::Hs):=aM7
 exact⟨_,hs.cd h2,h h1.1.1 h1.1.2.1⟩
theorem av3(q q':List SI)(hq:∀y∈q',∃x∈q,y.1.data=x.1.data/\y.1.fk=x.1.fk/\y.2.2=x.2.2)[hf:FP Hs (zc q) F](h:X ab b β cc k E (zc q'::Hs) R):X ab b β cc k E Hs R:=by
 refine X.cd (il hf.out λr hr y hy=>?_) h
 obtain⟨x,hx,h1,h2,h3⟩:=hq y hy
 rw[h1,h2,h3]
 exact hr x hx
end
def tO(p:Place)(s:Src):Bool:=s.no==p.qK&&s.uX
theorem XS(x:SI)(p:Place)(b1:Nat):TR ab G 384 #[au x.2.1,au b1] [bx x.2.1 283 x.cs,bx b1 153 p.cs] (cb λv B=>v=.bool (tO p x.1)/\B=[bx x.2.1 283 x.cs,bx b1 153 p.cs]):=by
 refine aW U λb β hb hG=>?_
 obtain⟨⟨no,data,uX,fk⟩,bb,⟨da,dc⟩,⟨pa,pc⟩⟩:=x
 dsimp only[SI.cs]
 refine xS ?_
 by_cases h:no=p.qK
 ·refine eR 13 [0,1] ?_
  apply cW [0,1,2,3,4,5,6,7,8,9,10,11,12] U U U
  ·intro pp B4
   refine xS ?_
   refine aM 11 true U (by simp[h]) (xS ?_)
   exact B4
  ·rfl
  ·rfl
  refine xS ?_
  exact bO hb (.tmps U) ⟨by simp[lx,tO,h],U⟩
 ·refine eR 13 [0,1] ?_
  apply cW [0,1,2,3,4,5,6,7,8,9,10,11,12] U U U
  ·intro pp B4
   refine xS ?_
   refine aM 11 false U (by
    have:¬(no.toNat:Int)=p.qK.toNat:=λh2=>h (dM.1 (by omega))
    simp[this]) ?_
   refine xS ?_
   exact B4
  ·rfl
  ·rfl
  refine xS ?_
  exact bO hb (.tmps U) ⟨by simp[lx,tO,h],U⟩
theorem SU(b1:Nat)(p:Place)(a:Option Addr)(n c:Nat)(q:List SI)(hn:q.length=n)(hs:n<=1099511627776):
 TR ab G 383 #[.slice a n c,.func (.func 384) #[] #[au b1]] [bV (bp El) 1 a q,cV (q.map r9),bx b1 153 p.cs] (cb λv B=>v=aX (cy (tO p) 0 (q.map (·.1)))/\B=[cV (q.map r9),bx b1 153 p.cs]):=by
 refine aW U λb β hb hG=>?_
 rw[<-Ak (λx:SI=>x.1) (tO p) 0 q]
 refine xS ?_
 refine eT [0,1] [] (ι:={i:Nat // i<=n/\cy (λx:SI=>tO p x.1) 0 q=cy (λx:SI=>tO p x.1) i (q.drop i)}) (λi q_=>(7,aX n)::(8,aX i.1)::q_) (λi q_=>q_) (λi=>n - i.1) ⟨0,al _,U⟩ ?_
 rintro⟨i,hi,hE⟩ ih
 dsimp only
 refine xB ?_ ?_<;>intro h
 ·have hi:i<q.length:=by simp at h;omega
  refine xS ?_;refine cH U U U U U hi hn λbl o=>?_;rw[jt _ q i hi]at hE;refine xS ?_;refine CP q i hi ?_;refine gW (fst:=[]) (us:=[au q[i].2.1]) (cap:=[au b1]) hG (XS G q[i] p b1) U U U U aN.es ?_;rintro v B ⟨rfl,rfl⟩;dsimp only[ae,ai,ah];refine UK q i hi  ?_;refine xB ?_ ?_<;>intro h2
  ·rw[if_pos FG]at hE;exact bj6
  ·rw[if_neg FG]at hE;refine xS ?_;exact X.W (ih ⟨i+1,by omega,hE⟩ gm)
 ·have fw:i=n:=by simp at h;omega
  exact bk6
def oH(no:UInt32)(p:Ptr):Seen:=⟨p.key,p.eB,p.kind,⟨no,p.at_,p.len⟩,false,[]⟩
def gM(s:Src):List Seen:=if s.uX=true then s.fk.map (oH s.no)else(lN [⟨(fH 1 s.no).1,s.data⟩]).map iU
theorem XT(x:SI)(ZZ:x.1.data.length<=x.2.2.1.2)(Z5:x.2.2.1.1=none->x.1.data.length=0/\x.2.2.1.2=0)(hdl:x.1.data.length<=1000000000)(tJ:x.1.fk.length<=1000000000):
 TR ab GG 287 #[au x.2.1] [bx x.2.1 283 x.cs,bV RB 1 x.2.2.1.1 x.1.data,bV (bp Ptr.cs) 5 x.2.2.2.1 x.1.fk]
  (cb λv B=>∃a c,v=.slice a (gM x.1).length c/\B=[own 155 8 a (gM x.1).length c ((gM x.1).flatMap Seen.cs),bx x.2.1 283 x.cs]):=by
 refine cg U λb β hb hG=>?_
 obtain⟨⟨no,data,uX,fk⟩,bb,⟨da,dc⟩,⟨pa,pc⟩⟩:=x
 dsimp only[SI.cs]at*
 unfold gM
 refine xS ?_
 refine jC U U λb3=>?_
 refine A7 Seen.cs 155 8 b3 U (xS ?_)
 cases uX with
 |true=>
  rw[if_pos U];refine xS ?_;refine eT [0,3,19] [2,0] (ι:={i:Nat // i<=fk.length}) (λi q_=>(20,aX fk.length)::(21,aX i.1)::q_) (λi q_=>lE Seen.cs 155 8 235 b3 ((fk.take i.1).map (oH no))::q_) (λi=>fk.length - i.1) ⟨0,al _⟩ ?_;rintro⟨i,hi⟩ ih;dsimp only at hi ⊢;refine xB ?_ ?_<;>intro h
  ·have hi:i<fk.length:=by grind
   have vy:(fk.take (i+1)).map (oH no)=(fk.take i).map (oH no)++[oH no fk[i]]:=NS;have Fj:((fk.take i).map (oH no)).length<=1000000000:=bE;refine xS ?_;refine cH U U U U U hi U λbl o=>?_;generalize fk[i]=p at*;generalize(fk.take i).map (oH no)=sl at*;refine xS ?_;refine dF U U U U  ?_;refine xA ?_;intro b5;refine mh Seen.cs 155 8 235 b3 λa9 c9=>?_;refine eR 15 [0,2,4] ?_;refine xL [0,1,2,3,4,5,6,7,8,9,10,11,12,13,14] ?_;refine xZ ?_;intro rR;refine eD (oH no p) U U U U av U iA iA iA iA iA av λa8 c8=>xS ?_;refine tD Seen.cs 155 8 235 b3 (sl++[oH no p]) U ?_;rw[<-vy];exact bC2
  ·have fw:i=fk.length:=by grind
   subst fw;rw[bh];refine xS ?_;refine mh Seen.cs 155 8 235 b3 λa9 c9=>xS ?_;exact bO hb (.tmps U) ⟨a9,c9,U,U⟩
 |false=>
  rw[if_neg Bool.false_ne_true];refine xJ (yU 1 no) ?_;have Z4:=qA 1 no;generalize(fH 1 no).1=nm at*;refine xZ ?_;intro b60;refine Ut b60 2 1 U U ?_;refine dE (some ⟨b60,0,none⟩) bG [((⟨nm,data⟩,da,dc):WB bn)] U U (λ_=>rfl) λ_=>?_;refine Pz bn.data ⟨nm,data⟩ da dc ZZ Z5 ?_;refine bw (Iv GG (some ⟨b60,0,none⟩) 1 1) ?_;rintro v B ⟨p,rfl,rfl⟩;refine xD ?_;have hvl:=qC [(⟨nm,data⟩:bn)];have hus:aZ [(⟨nm,data⟩:bn)]=data.length:=KD;rw[hus]at hvl;have hit:=Iw p (some ⟨b60,0,none⟩) 1 1 [((⟨nm,data⟩,da,dc):WB bn)] U av (λx hx=>by
   rw[bD.1 hx];dsimp only;exact⟨by omega,by omega⟩)
  have hmq:([((⟨nm,data⟩,da,dc):WB bn)]).map (·.1)=[⟨nm,data⟩]:=U;rw[hmq]at hit;generalize lN [(⟨nm,data⟩:bn)]=V at*;refine qh hG hb hit U (λpre=>[lE Seen.cs 155 8 235 b3 (pre.map iU)]) [lE Seen.cs 155 8 235 b3 []] U (λ_=>rfl) de ?_ ?_
  ·intro b' β' l' r pre x post hx lC yy hr;have tJ:pre.length<=1000000000:=bE;have SH:(pre++[x]).map iU=pre.map iU++[iU x]:=nH;have Z4:(pre.map iU).length=pre.length:=aA _;have F0:iU x=⟨x.2.key,x.2.eB,x.2.kind,x.1,true,if ca (fj x.2)=0 then eE (fj x.2)else[]⟩:=U;rw[SH];generalize pre.map iU=sl at*;generalize iU x=sx at*;obtain⟨pl,rc⟩:=x;dsimp only[pr2,yx]at F0 ⊢;refine xA ?_;intro b5;refine xA ?_;intro b6;refine qg lC hr (xS ?_);refine Cc yy U U U (xS ?_);refine ei yy (oE GG (fj rc)) U U U aN.es ?_;rintro v B (⟨h0,a7,c7,rfl,rfl⟩|⟨h0,rfl,rfl⟩)
   ·rw[if_pos h0]at F0;subst F0;have Fh:=r7 h0;refine xD ?_;refine mh Seen.cs 155 8 235 b3 λa9 c9=>xS ?_;refine xV U U U U  ?_;refine xZ ?_;intro rR;refine eD ((⟨rc.key,rc.eB,rc.kind,pl,true,eE (fj rc)⟩:Seen)) U U U U av U iA iA iA iA iA av λa8 c8=>xS ?_;refine tD Seen.cs 155 8 235 b3 (sl++[(⟨rc.key,rc.eB,rc.kind,pl,true,eE (fj rc)⟩:Seen)]) U ?_;exact ll lC
   ·rw[if_neg h0]at F0;subst F0;refine xD ?_;refine mh Seen.cs 155 8 235 b3 λa9 c9=>?_;refine jl UInt8 RB 1  ?_;refine xZ ?_;intro rR;refine eD ((⟨rc.key,rc.eB,rc.kind,pl,true,[]⟩:Seen)) U U U U av U iA iA iA iA iA av λa8 c8=>xS ?_;refine tD Seen.cs 155 8 235 b3 (sl++[(⟨rc.key,rc.eB,rc.kind,pl,true,[]⟩:Seen)]) U ?_;exact ll lC
  ·intro DD;dsimp only[ae,ai,ah];refine mh Seen.cs 155 8 235 b3 λa6 c6=>xS ?_;exact bi4
@[reducible] def Em:Value:=.agg #[]
def tP(l:List Seen):List (Bs×Value):=l.foldl (λM s=>gJ M s.key Em) []
theorem Oh(l:List Seen)(s:Seen):tP (l++[s])=gJ (tP l) s.key Em:=by grind [tP]
def zd(d:dR)(s:Src):dR:=(d.add (gM s)).1
def gQ(l:List Src):dR:=l.foldl zd []
def qE(l:List Src):List (Bs×Value):=tP (l.flatMap gM)
def jO(l:List Src):Nat:=(l.map λs=>(gM s).length).sum
theorem qe{d:dR}(h:d.ok)(l:List Seen):(d.add l).1.ok/\dI (d.add l).1<=dI d+l.length:=by
 grind [dR.add,rC]
theorem IF(l:List Src)(i:Nat)(h:i<l.length):jO (l.take (i+1))=jO (l.take i)+(gM l[i]).length:=by
 grind [jO,aY]
theorem Oi(l:List Src)(i:Nat):jO (l.take i)<=jO l:=by
 grind [jO,cP]
theorem Lg(n c:Nat)(q:List SI)(hn:q.length=n)(hs:n<=1000000000000)(hd:∀x∈q,x.1.data.length<=1000000000/\x.1.fk.length<=1000000000)(gE:jO (q.map (·.1))<=1000000000):
 TR ab GG 179 #[.slice a n c] [bV (bp El) 1 a q,cV (q.map r9),zc q] (cb λv B=>∃K KM,v=.tuple #[au K,.map (some KM)]/\B=[gS K (gQ (q.map (·.1))),mp ao KM (qE (q.map (·.1))),cV (q.map r9)]):=by
 subst hn
 refine cg U λb β hb hG=>xS ?_
 refine bw (Ir GG) ?_
 rintro v B ⟨K,rfl,rfl⟩
 refine xD ?_
 refine qR ao U U λKM=>xS ?_
 refine eT [4,5,13] [1,0] (ι:={i:Nat // i<=q.length/\dI (gQ ((q.map (·.1)).take i))<=jO ((q.map (·.1)).take i)}) (λi q_=>(14,aX q.length)::(15,aX i.1)::q_) (λi q_=>gS K (gQ ((q.map (·.1)).take i.1))::mp ao KM (qE ((q.map (·.1)).take i.1))::q_) (λi=>q.length - i.1) ⟨0,al _,al _⟩ ?_
 rintro⟨i,hi,hds⟩ ih
 dsimp only at hi hds ⊢
 refine xB ?_ ?_<;>intro h
 ·have hi:i<q.length:=by grind
  have iq:=aB hi;obtain⟨ZZ,Z5⟩:=hd _ iq;have vy:(q.map (·.1)).take (i+1)=(q.map (·.1)).take i++[q[i].1]:=NS;have YS:=IF (q.map (·.1)) i Ij;have hle:=Oi (q.map (·.1)) (i+1);rw[ft]at YS;have hD:gQ ((q.map (·.1)).take (i+1))=((gQ ((q.map (·.1)).take i)).add (gM q[i].1)).1:=by rw[vy];unfold gQ;rw[List.foldl_append];rfl
  have hK:(q.map (·.1)).take i++[q[i].1]=(q.map (·.1)).take (i+1):=vy.symm;have hKM:∀j,qE ((q.map (·.1)).take i)=tP (((q.map (·.1)).take i).flatMap gM++(gM q[i].1).take j)\/True:=λ_=>.inr trivial;have hK2:qE ((q.map (·.1)).take (i+1))=tP (((q.map (·.1)).take i).flatMap gM++gM q[i].1):=by grind [qE]
  have hK1:qE ((q.map (·.1)).take i)=tP (((q.map (·.1)).take i).flatMap gM):=U;rw[hK1];generalize((q.map (·.1)).take i).flatMap gM=pre at*;refine av4 q q[i] iq λjz mD=>xS ?_;refine cH U U U U U hi U λbl o=>xS ?_;refine CP q i hi ?_;refine bw (XT q[i] jz mD ZZ Z5) ?_;rintro v B ⟨a8,c8,rfl,rfl⟩;dsimp only[ae,ai,ah];refine UK q i hi ?_;refine ye K λhdok=>?_;have hao:=qe hdok (gM q[i].1);have hds':dI (gQ ((q.map (·.1)).take (i+1)))<=jO ((q.map (·.1)).take (i+1)):=by rw[hD,YS];have:=hao.2;omega
  have hdl:dI (gQ ((q.map (·.1)).take i))+(gM q[i].1).length<=1000000000:=av;generalize gM q[i].1=T at*;refine dE a8 Seen.cs T U U (λ_=>rfl) λ_=>?_;refine xU (Aw GG K _ a8 _ c8 T U hdl) ?_;rw[<-hD];refine xD ?_;refine X.loop (ι:={j:Nat // j<=T.length}) (λj=>([(4,au K),(5,.map (some KM)),(13,.slice a q.length c),(14,aX q.length),(15,aX i),(24,.slice a8 T.length c8),(25,aX T.length),(26,aX j.1)],[gS K (gQ ((q.map (·.1)).take (i+1))),mp ao KM (tP (pre++T.take j.1)),cV (q.map r9),bV (bp El) 1 a q,zc q,bV (bp Seen.cs) 8 a8 T])) (λj=>T.length - j.1) ⟨0,al _⟩ (Sub.of U) (by dsimp only;rw[ik,ah];exact ay) ?_;rintro⟨j,hj⟩ pG;dsimp only at hj ⊢;refine xB ?_ ?_<;>intro h2
  ·have hj:j<T.length:=by grind
   have htj:tP (pre++T.take (j+1))=gJ (tP (pre++T.take j)) T[j].key Em:=by
    grind [aY,Oh]
   refine xS ?_;refine cH U U U U U hj U λVM o2=>?_;generalize T[j]=y at*;refine xS ?_;refine dF U U U U  ?_;refine xA ?_;intro rR;refine qi y.key bW U U U U ?_;rw[<-htj];exact aH4
  ·have Mp:j=T.length:=by grind
   subst Mp;rw[bh,<-hK2];refine xS ?_;exact X.W (ih ⟨i+1,by omega,hds'⟩ bE)
 ·have fw:i=q.length:=by grind
  subst fw;rw[aD nH];refine xS ?_;exact bO hb (.tmps U) ⟨K,KM,U,U⟩
theorem Pl{P:Program}{b:Frame}{β:bS}{k:Kt}{E:Env}{Hs:List az}{R:Ending->List az->Prop}{cc:Option (Array Oper×List Oper)}{α:Type}{Re:Rp α}{sz:Nat}{xs:List α}(i:Nat)(hi:i<xs.length)[hf:zI Hs a Re sz xs](h:∀g o,a=some ⟨g,o,none⟩->X P b β cc k E (el Re sz g (o+i*sz) xs[i]::Hs) R):X P b β cc k E Hs R:=by
 obtain⟨F,hF⟩:=hf.out
 refine jo λw hs=>?_
 have h1:=Sat.ro (hs.cd hF)
 rcases h1 with h2|⟨g,o,ha,_⟩
 ·grind
 ·refine⟨_,hs.cd (il (q:=λr=>∃l:List Value,l.length=sz/\BS r g (o+i*sz) l/\Re.h r l xs[i]) hF λr hr=>?_),h g o ha⟩
  rcases hr with h2|⟨g',o',ha',h3⟩
  ·grind
  simp_all
section
variable {σ:Type}(step:σ->Src->Place->Bool->σ)
def xi(s:Src)(p:Place)(z:σ)(l:List Ptr):σ:=l.foldl (λz x=>if x.at_=p.at_/\x.len=p.len then step z s p (nY s.data x)else z) z
def Lh(l:List Src)(i:Nat):Src:=l.getD i ⟨0,[],false,[]⟩
def Oj(l:List Src)(z:σ)(p:Place):σ:=if 0<=cy (tO p) 0 l then xi step (Lh l (cy (tO p) 0 l).toNat) p z (Lh l (cy (tO p) 0 l).toNat).fk else z
def oX(l:List Src)(ps:List Place)(z:σ):σ:=ps.foldl (Oj step l) z
theorem an1(q:List SI)(i:Nat)(h:i<q.length):Lh (q.map (·.1)) i=q[i].1:=by
 grind [Lh]
theorem SV(s:Src)(p:Place)(z:σ)(l:List Ptr)(j:Nat)(h:j<l.length):xi step s p z (l.take (j+1))=(if l[j].at_=p.at_/\l[j].len=p.len then step (xi step s p z (l.take j)) s p (nY s.data l[j])else xi step s p z (l.take j)):=by
 grind [xi,aY]
theorem Ol(l:List Src)(ps:List Place)(z:σ)(i:Nat)(h:i<ps.length):oX step l (ps.take (i+1)) z=Oj step l (oX step l (ps.take i) z) ps[i]:=by
 grind [oX,aY]
theorem Qm(G:bZ)(fe:Nat)[CF ab fe](cap:List Value)(S:σ->az)(I:σ->Prop)(a:Option Addr)(n c:Nat)(q:List SI)(hn:q.length=n)(hs:n<=1000000000000)(hd:∀x∈q,x.1.data.length<=1000000000/\x.1.fk.length<=1000000000)
 (pa:Option Addr)(pn pc:Nat)(ps:List Place)(hpn:ps.length=pn)(hps:pn<=1000000000000)(z0:σ)(hI:I z0)(aI2:∀z s p r,I z->I (step z s p r))
 (he:∀(x:SI) (p:Place) (r:Bool) (z:σ),x∈q->I z->TR ab G fe (([]:List Value)++[au x.2.1,p.v,.bool r]++cap).toArray [bx x.2.1 283 x.cs,bV RB 1 x.2.2.1.1 x.1.data,S z] (cb λv B=>v=.tuple #[]/\B=[bx x.2.1 283 x.cs,S (step z x.1 p r)])):
 TR ab G 288 #[.slice a n c,.slice pa pn pc,.func (.func fe) #[] cap.toArray] [bV (bp El) 1 a q,cV (q.map r9),zc q,bV (bp Place.cs) 3 pa ps,S z0]
  (cb λv B=>v=.tuple #[]/\B=[cV (q.map r9),S (oX step (q.map (·.1)) ps z0)]):=by
 subst hn hpn
 refine jr U λb β hb hG=>xS ?_
 refine eT [0,2,11] [4] (ι:={i:Nat // i<=ps.length/\I (oX step (q.map (·.1)) (ps.take i) z0)}) (λi q_=>(12,aX ps.length)::(13,aX i.1)::q_) (λi q_=>S (oX step (q.map (·.1)) (ps.take i.1) z0)::q_) (λi=>ps.length - i.1) ⟨0,al _,hI⟩ ?_
 rintro⟨i,hi,hIz⟩ ih
 dsimp only at hi hIz ⊢
 refine xB ?_ ?_<;>intro h
 ·have hi:i<ps.length:=by grind
  have iz:=Ol step (q.map (·.1)) ps z0 i hi;refine xS ?_;refine cH U U U U U hi U λbl o=>?_;generalize ps[i]=p at*;obtain⟨z,hz⟩:∃z,z=oX step (q.map (·.1)) (ps.take i) z0:=⟨_,U⟩;have hIz1:I z:=hz▸hIz;rw[<-hz]at iz ⊢;refine xS ?_;refine dF U U U U  ?_;refine xA ?_;intro b7;refine xQ (SU G b7 p a _ c q U av) ?_;unfold Oj at iz;have tV:=An (tO p) 0 (q.map (·.1));generalize hJ:cy (tO p) 0 (q.map (·.1))=J at*;rw[aA]at tV;refine xB ?_ ?_<;>intro h2
  ·have h2:¬0<=J:=by grind
   rw[if_neg h2]at iz;refine xS ?_;refine X.less (ih ⟨i+1,by omega,by grind⟩ bE) (Y7 U U U U (eN U pH)) (by dsimp only;rw[iz];exact ay)
  ·have h2:0<=J:=by grind
   rw[if_pos h2]at iz;obtain⟨j,rfl⟩:∃j:Nat,J=j:=⟨J.toNat,by omega⟩;have hj:j<q.length:=av;rw[fG,an1 q j hj]at iz;have iq:=aB hj;obtain⟨ZZ,Z5⟩:=hd _ iq;refine av4 q q[j] iq λjz mD=>?_;refine CP q j hj ?_;refine Pl (Re:=bp El) (xs:=q) a j hj λg og hga=>?_;have hex:=λr z=>he q[j] p r z iq;obtain⟨x,hxq⟩:∃x,x=q[j]:=⟨_,U⟩;have IG:q.set j x=q:=JZ;simp only[<-hxq]at ZZ Z5 jz mD iz hex ⊢;clear hxq iq;obtain⟨s,xb,⟨xa,xc⟩,⟨ya,yc⟩⟩:=x;dsimp only[SI.cs]at*;subst hga;refine xS ?_;refine du U U U U U hj (xS ?_);refine eT [0,2,7,8,11,12,13,28] [6,6] (ι:={t:Nat // t<=s.fk.length/\I (xi step s p z (s.fk.take t))}) (λt q_=>(29,aX s.fk.length)::(30,aX t.1)::q_) (λt q_=>S (xi step s p z (s.fk.take t.1))::q_) (λt=>s.fk.length - t.1) ⟨0,al _,hIz1⟩ ?_;rintro⟨t,ht,hIt⟩ pG;dsimp only at ht hIt ⊢;refine xB ?_ ?_<;>intro h3
   ·have ht:t<s.fk.length:=by grind
    have Jd:=SV step s p z s.fk t ht;refine xS ?_;refine cH U U U U U ht U λVM o2=>?_;generalize s.fk[t]=y at*;obtain⟨z1,Gn⟩:∃z1,z1=xi step s p z (s.fk.take t):=⟨_,U⟩;have hIt1:I z1:=Gn▸hIt;rw[<-Gn]at Jd ⊢;refine xS ?_;refine dF U U U U (xS ?_);refine jC U U λrR=>?_;have key:∀z2,I z2->xi step s p z (s.fk.take (t+1))=z2->I (xi step s p z (s.fk.take (t+1))):=bE;refine xT 39 ?_ ?_<;>intro h4
    ·have h4:y.at_=p.at_:=by grind
     refine xB ?_ ?_<;>intro h5
     ·have h5:y.len=p.len:=by grind
      rw[if_pos ⟨h4,h5⟩]at Jd;refine xS ?_;refine fM (uC [0,1,2,3,4,5,6,7,8,9,10,11,12,13]) [bx rR 214 y.cs,bx b7 153 p.cs,bx xb 283 [.int .u32 s.no.toNat,.slice xa s.data.length xc,.bool s.uX,.slice ya s.fk.length yc],el (bp El) 1 g (og+j*1) (s,xb,(xa,xc),(ya,yc))] U ?_;apply cW [0,1,2,3,4,5,6,7,8,9,10,11,12,13] U U U
      ·intro pp B4;refine xS ?_;refine du U U U U U hj (xS ?_);refine du U U U U U hj (xS ?_);exact B4
      ·rfl
      ·rfl
      refine xJ (Ns G xa _ xc s.data y U jz av) ?_;refine gW hG (hex (nY s.data y) z1 hIt1) U U U U iv ?_;rintro v B ⟨rfl,rfl⟩;rw[<-Jd];refine xD ?_;exact X.W (pG ⟨t+1,by omega,by grind⟩ bE)
     ·have h5:¬y.len=p.len:=by grind
      exact aH2
    ·have h4:¬y.at_=p.at_:=by grind
     exact aH2
   ·have Xz:t=s.fk.length:=by grind
    subst Xz;rw[bh]at hIt ⊢;have JM:oX step (q.map (·.1)) (ps.take (i+1)) z0=xi step s p z s.fk:=iz;rw[<-JM]at hIt ⊢;refine xS ?_;refine yh q j hj (s,xb,(xa,xc),(ya,yc)) ?_;rw[IG];exact X.W (ih ⟨i+1,by omega,hIt⟩ bE)
 ·have fw:i=ps.length:=by grind
  subst fw;rw[bh];exact xF
end
def sb(k:Nat×Nat)(g:List UInt32):az:=ex λz:List (UInt32×Value)=>[pu (z.map (·.1)=g/\∀y∈z,∃b,y.2=au b),bx k.1 501 [.map (some k.2)],mp Sf k.2 z]
def oh(g:List UInt32)(s:Src)(_:Place)(r:Bool):List UInt32:=if r=true then g else g.erase s.no
theorem Om(z:List (UInt32×Value))(n:UInt32):(tW z n).map (·.1)=(z.map (·.1)).erase n:=by
 unfold tW;induction z with
 |nil=>rfl
 |cons y r ih=>
  rw[List.findIdx?_cons,aK,List.erase_cons];by_cases h:y.1=n
  ·simp[h]
  ·simp only[h,decide_false,if_neg (show ¬(y.1==n)=true by simpa using h)];cases hr:r.findIdx? (λx=>decide (x.1=n))with
   |none=>rw[hr]at ih;simp at ih ⊢;exact ih
   |some i=>rw[hr]at ih;simp at ih ⊢;exact ih
theorem SX{p:Value->Prop}{z:List (UInt32×Value)}(h:∀y∈z,p y.2):∀y∈tW z n,p y.2:=by
 unfold tW;split
 ·exact λy hy=>h y (List.mem_of_mem_eraseIdx hy)
 ·exact h
theorem SY(k:Nat×Nat)(x:SI)(p:Place)(r:Bool)(g:List UInt32):
 TR ab G 378 (([]:List Value)++[au x.2.1,p.v,.bool r]++[au k.1]).toArray [bx x.2.1 283 x.cs,bV RB 1 x.2.2.1.1 x.1.data,sb k g] (cb λv B=>v=.tuple #[]/\B=[bx x.2.1 283 x.cs,sb k (oh g x.1 p r)]):=by
 obtain⟨⟨no,data,uX,fk⟩,bb,⟨da,dc⟩,⟨pa,pc⟩⟩:=x
 obtain⟨k5,GM⟩:=k
 refine TR.go (us:=[_,_,_,_]) (aI U) λb β hb hG=>?_
 dsimp only[SI.cs]
 unfold oh
 refine xP ?_
 intro b5
 cases r with
 |true=>
  rw[if_pos U];exact xF
 |false=>
  rw[if_neg Bool.false_ne_true];refine X.ma sb (k5,GM) U λz=>?_;dsimp only[ae,ai,ah];refine lj λhz=>xS ?_;refine eR 5 [0,3] ?_;refine xL [0,1,2,3,4] ?_;refine xS ?_;refine CK no Am U U U (xS ?_);refine X.cd (dY (p:=(tW z no).map (·.1)=g.erase no/\∀y∈tW z no,∃b,y.2=au b) ⟨by rw[Om,hz.1],SX (p:=λv=>∃b,v=au b) no hz.2⟩ _) ?_;exact X.fin hb (.tmps U) ⟨_,⟨U,U⟩,(aN.shut sb (k5,GM) (g.erase no) U (tW z no)).trans ay⟩
def oY(l:List Src):List UInt32:=l.foldl (λg s=>if s.no∈g then g else g++[s.no]) []
def om(l:List Src)(ps:List Place):List UInt32:=oX oh l ps (oY l)
def nz(l:List Src)(ps:List Place):List Src:=l.map λs=>{s with uX:=s.uX&&decide (s.no∈om l ps)}
def lO(l:List Src)(ps:List Place):Bool:=decide ((om l ps).length<l.length)
theorem On(l:List Src)(i:Nat)(h:i<l.length):oY (l.take (i+1))=if l[i].no∈oY (l.take i)then oY (l.take i)else oY (l.take i)++[l[i].no]:=by
 unfold oY;rw[aY,aV h,List.foldl_append];rfl
@[reducible] def jW(f:Src->Bool)(x:SI):SI:=(⟨x.1.no,x.1.data,x.1.uX&&f x.1,x.1.fk⟩,x.2)
def AI(f:Src->Bool)(q:List SI)(i:Nat):List SI:=(q.take i).map (jW f)++q.drop i
theorem Li(f:Src->Bool)(q:List SI)(i:Nat):(AI f q i).length=q.length:=by
 unfold AI;rw[aG,aA,<-aG,cP]
theorem XU(f:Src->Bool)(q:List SI)(i:Nat)(h:i<q.length):(AI f q i).set i (jW f q[i])=AI f q (i+1):=by
 unfold AI;have h1:((q.take i).map (jW f)).length=i:=Dl;exact aE6
theorem XV(f:Src->Bool)(q:List SI)(i:Nat)(h:i<q.length):(AI f q i)[i]'(by rw[Li];exact h)=q[i]:=by
 have h1:((q.take i).map (jW f)).length=i:=Dl;have h2:(AI f q i)[i]?=some q[i]:=by
  unfold AI;exact aF3
 exact(List.getElem?_eq_some_iff.1 h2).2
instance:wO ab 280 (.pointer none):=⟨by kernel_rfl⟩
def mH(l:List Src)(ps:List Place)(s:Src):Bool:=decide (s.no∈om l ps)
theorem uY(q:List SI)(ps:List Place):(q.map (jW (mH (q.map (·.1)) ps))).map (·.1)=nz (q.map (·.1)) ps:=by
 unfold nz mH;simp_all
theorem Lj(n c:Nat)(q:List SI)(hn:q.length=n)(hs:n<=1000000000000)(hd:∀x∈q,x.1.data.length<=1000000000/\x.1.fk.length<=1000000000)(pa:Option Addr)(pn pc:Nat)(ps:List Place)(hpn:ps.length=pn)(hps:pn<=1000000000000):
 TR ab G 282 #[.slice a n c,.slice pa pn pc] [bV (bp El) 1 a q,cV (q.map r9),zc q,bV (bp Place.cs) 3 pa ps]
  (cb λv B=>v=.bool (lO (q.map (·.1)) ps)/\B=[cV ((q.map (jW (mH (q.map (·.1)) ps))).map r9)]):=by
 subst hn
 refine aW U λb β hb hG=>xS ?_
 refine qR Sf U U λGM=>?_
 refine xA ?_
 intro b5
 refine X.cd (dY (p:=(([]:List (UInt32×Value)).map (·.1)=oY []/\∀y∈([]:List (UInt32×Value)),∃b,y.2=au b)) ⟨U,λy hy=>by cases hy⟩ _) ?_
 refine fi sb (b5,GM) (oY []) U [] ?_
 refine eT [0,1,5,11] [0] (ι:={i:Nat // i<=q.length}) (λi q_=>(12,aX q.length)::(13,aX i.1)::q_) (λi q_=>sb (b5,GM) (oY ((q.map (·.1)).take i.1))::q_) (λi=>q.length - i.1) ⟨0,al _⟩ ?_
 rintro⟨i,hi⟩ ih
 dsimp only at hi ⊢
 refine xB ?_ ?_<;>intro h
 ·have hi:i<q.length:=by grind
  have hgt:=On (q.map (·.1)) i Ij;rw[ft]at hgt;refine xS ?_;refine cH U U U U U hi U λbl o=>xS ?_;refine CP q i hi ?_;refine X.ma sb (b5,GM) U λz=>?_;dsimp only[ae,ai,ah];refine lj λhz=>?_;obtain⟨x,hxq⟩:∃x,x=q[i]:=⟨_,U⟩;have IG:q.set i x=q:=JZ;simp only[<-hxq]at hgt ⊢;obtain⟨⟨no,data,uX,fk⟩,xb,⟨xa,xc⟩,⟨ya,yc⟩⟩:=x;dsimp only[SI.cs]at hgt ⊢;clear hxq;refine eR 6 [0,2] ?_;refine xL [0,1,2,3,4,5] ?_;refine xS ?_;refine qi no Am U U U U (xS ?_);refine X.cd (dY (p:=((gJ z no (au xb)).map (·.1)=oY ((q.map (·.1)).take (i+1))/\∀y∈gJ z no (au xb),∃b,y.2=au b)) ⟨by grind [rX],qa (p:=λv=>∃b,v=au b) hz.2 ⟨xb,U⟩⟩ _) ?_;refine fi sb (b5,GM) (oY ((q.map (·.1)).take (i+1))) U (gJ z no (au xb)) ?_;refine yh q i hi (⟨no,data,uX,fk⟩,xb,(xa,xc),(ya,yc)) ?_;rw[IG];exact bC2
 have fw:i=q.length:=bE
 subst fw
 rw[aD nH]
 clear ih hi h
 refine xQ (Qm oh G 378 [au b5] (sb (b5,GM)) (λ_=>True) a _ c q U hs hd pa pn pc ps hpn hps (oY (q.map (·.1))) trivial (λ_ _ _ _ _=>trivial) (λx p r z hx _=>SY G (b5,GM) x p r z)) ?_
 have hgg:oX oh (q.map (·.1)) ps (oY (q.map (·.1)))=om (q.map (·.1)) ps:=U
 rw[hgg]
 have zJ:∀s,mH (q.map (·.1)) ps s=decide (s.no∈om (q.map (·.1)) ps):=λ_=>rfl
 have hcb:lO (q.map (·.1)) ps=decide ((om (q.map (·.1)) ps).length<q.length):=by grind [lO]
 rw[hcb]
 generalize mH (q.map (·.1)) ps=f at*
 generalize om (q.map (·.1)) ps=gd at*
 refine xS ?_
 refine eT [0,5,28] [3,3,0] (ι:={i:Nat // i<=q.length}) (λi q_=>(29,aX q.length)::(30,aX i.1)::q_) (λi q_=>cV ((AI f q i.1).map r9)::q_) (λi=>q.length - i.1) ⟨0,al _⟩ ?_
 rintro⟨i,hi⟩ ih
 dsimp only at hi ⊢
 refine xB ?_ ?_<;>intro h
 ·have hi:i<q.length:=by grind
  obtain⟨x,hx⟩:∃x,x=q[i]:=⟨_,U⟩;obtain⟨Q,hQ⟩:∃Q,Q=AI f q i:=⟨_,U⟩;have hiQ:i<Q.length:=by grind [Li]
  have hbg:Q[i]=x:=by grind [XV]
  have XW:Q.set i (jW f x)=AI f q (i+1):=by grind [XU]
  rw[<-hQ];refine xS ?_;refine cH U U U U U hi U λbl o=>?_;rw[<-hx];refine xS ?_;refine CP Q i hiQ ?_;simp only[hbg];refine X.ma sb (b5,GM) U λz=>?_;dsimp only[ae,ai,ah];refine lj λhz=>?_;clear hx hQ;obtain⟨⟨no,data,uX,fk⟩,xb,⟨xa,xc⟩,⟨ya,yc⟩⟩:=x;have ZT:=zJ ⟨no,data,uX,fk⟩;dsimp only[SI.cs,jW]at XW ZT ⊢;refine xS ?_;refine eR 5 [0,2] ?_;refine xL [0,1,2,3,4] ?_;refine xS ?_;refine qS no Am U U U U (λw _=>wO.run inferInstance w) ?_;have BT:(fB z no).isSome=decide (no∈gd):=by
   grind [fB]
  cases hm:fB z no with
  |none=>
   rw[hm]at BT;have BT:decide (no∈gd)=false:=BT.symm;rw[ZT,BT,Bool.and_false]at XW;dsimp only[Option.getD_none];refine xS ?_;refine X.cd (dY hz _) ?_;refine fi sb (b5,GM) gd U z ?_;refine yh Q i hiQ (⟨no,data,false,fk⟩,xb,(xa,xc),(ya,yc)) ?_;exact a'8
  |some v=>
   rw[hm]at BT;have BT:decide (no∈gd)=true:=BT.symm;rw[ZT,BT,Bool.and_true]at XW;obtain⟨vb,rfl⟩:∃vb,v=au vb:=by
    grind [fB,bk]
   dsimp only[bX];refine xS ?_;refine X.cd (dY hz _) ?_;refine fi sb (b5,GM) gd U z ?_;refine yh Q i hiQ (⟨no,data,uX,fk⟩,xb,(xa,xc),(ya,yc)) ?_;exact a'8
 have fw:i=q.length:=bE
 subst fw
 have hbe:AI f q q.length=q.map (jW f):=by grind [AI]
 rw[hbe]
 refine X.ma sb (b5,GM) U λz=>?_
 dsimp only[ae,ai,ah]
 refine lj λhz=>?_
 have BT:z.length=gd.length:=by rw[<-hz.1,aA]
 refine xS ?_
 refine Mv U U U ?_
 rw[BT]
 refine xS ?_
 exact bO hb (.tmps U) ⟨by simp[lx],U⟩
end
section
variable{F:List az}{ps:List Place}{l':List Src}{ts:List UInt32}{cap:Int}{name:Bs}{σ:Type}(s:Src)(x:WB bn)(f:SI->SI)(l:List Src)(d:dR)(ks:List Bs)(i:Nat)(p:Place)(a:Option Addr)(q:List SI)(y:SI)(n c:Nat)
@[reducible] def a01(k:Nat×Nat)(d:dR):az:=cV [bx k.1 133 [au k.2],gS k.2 d]
def Oo(data:Bs)(at_:Int):Bs:=if ca (bL data at_).1=0 then eE (bL data at_).1 else[]
def oo(d:dR)(s:Src)(p:Place)(_:Bool):dR:=(d.settle p (Oo s.data p.at_)).1
theorem BC(p:Place)(body:Bs):∀d:dR,dI (d.settled p body)<=dI d
 |[]=>ar _
 |x::r=>by
  have ih:=BC p body r;have h1:=Cx p body x.2 [];have h2:dI (x::r)=x.2.length+dI r:=by unfold dI;simp
  rw[h2];unfold dR.settled at*;rw[eI];split
  ·omega
  ·rename_i y h3;split at h3
   ·cases h3
   ·cases h3;have h4:∀z (l:dR),dI (z::l)=z.2.length+dI l:=λz l=>by unfold dI;simp
    rw[h4];have h5:(Ef p body x.2).length<=x.2.length:=by
     unfold Ef;simpa using h1
    dsimp only;omega
theorem En(body:Bs):dI (d.settle p body).1<=dI d:=by
 grind [dR.settle,BC]
theorem Ll(k:Nat×Nat)(x:SI)(p:Place)(r:Bool)(d:dR)(jz:x.1.data.length<=x.2.2.1.2)(mD:x.1.data.length<=1000000000)(gE:dI d<=1000000000):
 TR ab GG 289 (([]:List Value)++[au x.2.1,p.v,.bool r]++[au k.1]).toArray [bx x.2.1 283 x.cs,bV RB 1 x.2.2.1.1 x.1.data,a01 k d] (cb λv B=>v=.tuple #[]/\B=[bx x.2.1 283 x.cs,a01 k (oo d x.1 p r)]):=by
 obtain⟨⟨no,data,uX,fk⟩,bb,⟨da,dc⟩,⟨pa,pc⟩⟩:=x
 obtain⟨k2,K⟩:=k
 refine TR.go (us:=[_,_,_,_]) (aI U) λb β hb hG=>?_
 dsimp only[SI.cs]at*
 refine kZ [bx k2 133 [au K],gS K d] ?_
 dsimp only[ae,ai,ah]
 have hstp:oo d ⟨no,data,uX,fk⟩ p r=(d.settle p (Oo data p.at_)).1:=U
 rw[hstp]
 unfold Oo
 refine xP ?_
 intro b5
 refine tU [3,5] [] (ι:=Nat) (λb7 q_=>(7,au b7)::q_) (λb7 q_=>bx b7 220 (bL data p.at_).1.cs::q_) ?fin ?main
 case main=>
  intro KK dW;refine nR [0,1,2,3,4,5,7,8,9,10] [3,0] ?_;refine xL [0,1,2,3,4,5] ?_;refine dA U U U U U ?_ ?_
  ·refine xJ (pW GG da _ dc data p.at_ U jz av) ?_;refine xL [7] ?_;refine xL [8] ?_;refine xL [9] ?_;refine xL [10] ?_;refine xA ?_;intro b7;exact X.W (dW b7)
  ·refine xA ?_;intro b7;refine xJ (pW GG da _ dc data p.at_ U jz av) ?_;refine xL [8,9,10] ?_;refine xS ?_;exact X.W (dW b7)
 case fin=>
  intro b7;refine xS ?_;refine bw (oE GG (bL data p.at_).1) ?_;rintro v B (⟨h0,a7,c7,rfl,rfl⟩|⟨h0,rfl,rfl⟩)
  ·rw[if_pos h0];have Fh:=r7 h0;refine xD ?_;refine xV U U U U  ?_;refine xE (Ej GG K p _ d gE) ?_;refine jc [bx k2 133 [au K],gS K (d.settle p (eE (bL data p.at_).1)).1] ?_;exact xF
  ·rw[if_neg h0];dsimp only[ae,ai,ah];refine jl UInt8 RB 1  ?_;refine xE (Ej GG K p _ d gE) ?_;refine jc [bx k2 133 [au K],gS K (d.settle p []).1] ?_;exact xF
def mn(l:List Src)(d:dR):dR:=oX oo l d.jV d
theorem vM{step:σ->Src->Place->Bool->σ}{I:σ->Prop}(hs:∀z s p r,I z->I (step z s p r))(l:List Src)(ps:List Place)(z:σ)(h:I z):I (oX step l ps z):=by
 have h1:∀(s:Src) (p:Place) (xs:List Ptr) (z:σ),I z->I (xi step s p z xs):=by
  intro s p xs;induction xs<;>grind [xi]
 have h2:∀(z:σ) (p:Place),I z->I (Oj step l z p):=by
  grind [Oj]
 unfold oX;induction ps generalizing z<;>grind
theorem pQ(h:dI d<=n):dI (mn l d)<=n:=
 vM (I:=λd=>dI d<=n) (λz s p _ h=>aj (En z p _) h) l d.jV d h
theorem Eo(K:Nat)(d:dR)(a:Option Addr)(n c:Nat)(q:List SI)(hn:q.length=n)(hs:n<=1000000000000)(hd:∀x∈q,x.1.data.length<=x.2.2.1.2/\x.1.data.length<=1000000000/\x.1.fk.length<=1000000000)(gE:dI d<=1000000000):
 TR ab GG 180 #[au K,.slice a n c] [gS K d,bV (bp El) 1 a q,cV (q.map r9),zc q] (cb λv B=>v=.tuple #[]/\B=[gS K (mn (q.map (·.1)) d),cV (q.map r9)]):=by
 refine aW U λb β hb hG=>?_
 have N7:=xh d
 refine xP ?_
 intro b2
 refine bw (AG GG K d gE) ?_
 rintro v B ⟨a6,c6,rfl,rfl⟩
 dsimp only[ae,ai,ah]
 have hse:mn (q.map (·.1)) d=oX oo (q.map (·.1)) d.jV d:=U
 rw[hse]
 generalize d.jV=ps at*
 refine dE a6 Place.cs ps U U (λ_=>rfl) λ_=>xS ?_
 refine jc [bx b2 133 [au K],gS K d] ?_
 refine xQ (Qm oo GG 289 [au b2] (a01 (b2,K)) (λd=>dI d<=1000000000) a n c q hn hs (λx hx=>(hd x hx).2) a6 _ c6 ps U av d gE (λz s p _ h=>aj (En z p _) h) (λx p r z hx hz=>Ll (b2,K) x p r z (hd x hx).1 (hd x hx).2.1 hz)) ?_
 refine kZ [bx b2 133 [au K],gS K (oX oo (q.map (·.1)) ps d)] (xD ?_)
 exact xF
def XY(l:List bn)(nm:Bs):Option Bs:=(l.reverse.find? λf=>f.name==nm).map (·.data)
def pB(l:List bn)(f:bn):Option Src:=
 if(bJ f.name).1≠1 then none else
 match(if(eY f.name).2=true then XY l (eY f.name).1 else none)with
 |none=>some ⟨(bJ f.name).2,f.data,false,[]⟩
 |some h=>some ⟨(bJ f.name).2,f.data,(gq h (iC f.data)).2==1,(gq h (iC f.data)).1⟩
def tb(l:List bn):List Src:=l.filterMap (pB l)
@[reducible] def slV(x:WB bn):Value:=.slice x.2.1 x.1.data.length x.2.2
def fmQ(q:List (WB bn)):List (Bs×Value):=q.foldl (λM x=>gJ M x.1.name (slV x)) []
theorem XZ(q:List (WB bn))(i:Nat)(h:i<q.length):fmQ (q.take (i+1))=gJ (fmQ (q.take i)) q[i].1.name (slV q[i]):=by
 grind [fmQ,aY]
theorem an3(q:List (WB bn))(nm:Bs):fB (fmQ q) nm=(q.reverse.find? λx=>x.1.name==nm).map slV:=by
 have key:∀(r:List (WB bn)),fB (fmQ r.reverse) nm=(r.find? λx=>x.1.name==nm).map slV:=by
  intro r;induction r with
  |nil=>rfl
  |cons x r ih=>
   grind [fmQ,mV]
 grind
theorem a03(q:List (WB bn))(nm:Bs):XY (q.map (·.1)) nm=(q.reverse.find? λx=>x.1.name==nm).map λx=>x.1.data:=by
 unfold XY;rw[<-List.map_reverse,List.find?_map,Option.map_map];rfl
section
variable {b:Frame}{β:bS}{k:Kt}{E:Env}{Hs:List az}{R:Ending->List az->Prop}{cc:Option (Array Oper×List Oper)}
theorem be2{F2:List az}[hf:FP Hs (zc q) F][JN:FP Hs (zc [y]) F2](h:X ab b β cc k E (zc (q++[y])::Hs) R):X ab b β cc k E Hs R:=by
 refine X.cd ?_ h;intro r o hh;obtain⟨_,_,_,_,_,kL,_⟩:=hf.out r o hh;obtain⟨_,_,_,_,_,tK,_⟩:=JN.out r o hh;exact aQ8
theorem UJ(h1:y.1.data.length<=y.2.2.1.2)(h2:y.2.2.1.1=none->y.1.data.length=0/\y.2.2.1.2=0){F2:List az}[hf:FP Hs (bV RB 1 y.2.2.1.1 y.1.data) F][JN:FP Hs (bV (bp Ptr.cs) 5 y.2.2.2.1 y.1.fk) F2](h:X ab b β cc k E (zc [y]::Hs) R):X ab b β cc k E Hs R:=by
 refine X.cd ?_ h;intro r o hh;obtain⟨_,_,_,_,_,kL,_⟩:=hf.out r o hh;obtain⟨_,_,_,_,_,tK,_⟩:=JN.out r o hh;refine⟨fL,o,cR _,cJ _,.refl _,λr' nG x hx=>?_,hh⟩;exact aO2
theorem bd8(h:X ab b β cc k E (zc []::Hs) R):X ab b β cc k E Hs R:=
 X.cd (Hs':=zc []::Hs) (λ_ o hs=>⟨fL,o,cR _,cJ _,.refl _,λ_ _ x hx=>ua,hs⟩) h
theorem aa8[hE:ES Hs [cV (q.map r9),bx y.2.1 283 y.cs] F](h:X ab b β cc k E (cV ((q++[y]).map r9)::F) R):X ab b β cc k E Hs R:=by
 refine X.cd (hE.out.trans ?_) h;refine(gG (q.map r9) _).trans ?_;have e:(q++[y]).map r9=q.map r9++[r9 y]:=nH;rw[e];have:=gp (q.map r9++[r9 y]) F;rw[bT]at this;exact this
end
instance:wO ab 55 (.slice none 0 0):=⟨by kernel_rfl⟩
theorem II{h:Bs}{p:ZX}(hw:(gq h p).2≠1):(gq h p).1=[]:=by
 grind [gq]
theorem Oq(q:List (WB bn))(hn:q.length=n)(hs:n<=1000000000000)(hb:∀x∈q,x.1.name.length<=1000000/\x.1.data.length<=1000000000):
 TR ab GG 176 #[.slice a n c] [bV (bp bG) 2 a q,dz bn.data q] (cb λv B=>∃a6 c6,∃q6:List SI,q6.map (·.1)=tb (q.map (·.1))/\v=.slice a6 q6.length c6/\B=[own 280 1 a6 q6.length c6 (q6.flatMap El),cV (q6.map r9),zc q6]):=by
 subst hn
 refine cg U λb β Sj hG=>xS ?_
 refine qR ao U U λBM=>xS ?_
 refine eT [0,3,19] [0] (ι:={i:Nat // i<=q.length}) (λi q_=>(20,aX q.length)::(21,aX i.1)::q_) (λi q_=>mp ao BM (fmQ (q.take i.1))::q_) (λi=>q.length - i.1) ⟨0,al _⟩ ?_
 rintro⟨i,hi⟩ ih
 dsimp only at hi ⊢
 refine xB ?_ ?_<;>intro h
 ·have hi:i<q.length:=by grind
  have hft:=XZ q i hi;refine xS ?_;refine cH U U U U U hi U λbl o=>?_;generalize q[i]=x at*;refine xS ?_;refine dF U U U U  ?_;refine xA ?_;intro b5;refine qi x.1.name bW U U U U ?_;rw[<-hft];exact aO9
 have fw:i=q.length:=bE
 subst fw
 rw[bh]
 clear ih hi h
 have hsr:tb (q.map (·.1))=(q.map (·.1)).filterMap (pB (q.map (·.1))):=U
 rw[hsr]
 have hbg:=a03 q
 have F0:∀f,pB (q.map (·.1)) f=if(bJ f.name).1≠1 then none else
  match(if(eY f.name).2=true then XY (q.map (·.1)) (eY f.name).1 else none)with
  |none=>some ⟨(bJ f.name).2,f.data,false,[]⟩
  |some h=>some ⟨(bJ f.name).2,f.data,(gq h (iC f.data)).2==1,(gq h (iC f.data)).1⟩:=λ_=>rfl
 generalize pB (q.map (·.1))=sof at*
 generalize XY (q.map (·.1))=bg at*
 refine xS ?_
 refine X.cd (ej 280 1 _) ?_
 refine bd8 ?_
 refine jc ([]:List az) ?_
 refine eT [3,31] [2,0,0] (ι:={z:Nat×(Option Addr×Nat)×List SI // z.1<=q.length/\z.2.2.map (·.1)=((q.map (·.1)).take z.1).filterMap sof}) (λz q_=>(6,.slice z.1.2.1.1 z.1.2.2.length z.1.2.1.2)::(32,aX q.length)::(33,aX z.1.1)::q_) (λz q_=>own 280 1 z.1.2.1.1 z.1.2.2.length z.1.2.1.2 (z.1.2.2.flatMap El)::cV (z.1.2.2.map r9)::zc z.1.2.2::q_) (λz=>q.length - z.1.1) ⟨(0,(none,0),[]),al _,U⟩ ?_
 rintro⟨⟨i,⟨a6,c6⟩,Q⟩,hi,hQ⟩ ih
 dsimp only at hi hQ ⊢
 have hQl:Q.length<=q.length:=by
  grind [List.length_filterMap_le]
 refine xB ?_ ?_<;>intro h
 ·have hi:i<q.length:=by grind
  have iq:=aB hi
  obtain⟨hb1,Ra⟩:=hb _ iq
  have vy:((q.map (·.1)).take (i+1)).filterMap sof=((q.map (·.1)).take i).filterMap sof++(sof q[i].1).toList:=by
   grind [aY]
  rw[<-hQ]at vy
  refine oI (data:=bn.data) q q[i] iq λjz mD=>?_
  have Qn:=F0 q[i].1
  refine xS ?_
  refine cH U U U U U hi U λbl o=>?_
  generalize q[i]=x at*
  refine xS ?_
  refine dF U U U U  ?_
  refine xA ?_
  intro b8
  refine xJ (mF x.1.name av) ?_
  refine xB ?_ ?_<;>intro h1
  ·have h1:(bJ x.1.name).1≠1:=by
    grind
   rw[if_pos h1]at Qn;rw[Qn,Option.toList,ah]at vy;refine xS ?_;exact X.W (ih ⟨(i+1,(a6,c6),Q),by omega,vy.symm⟩ bE)
  have h1:¬(bJ x.1.name).1≠1:=by
   grind
  rw[if_neg h1]at Qn
  refine xP ?_
  intro wu
  refine xJ (vE x.1.name av) ?_
  refine tU [3,6,11,31,32,33] [0,0,0,0] (ι:={y:Src×(Option Addr×Nat) // sof x.1=some y.1/\y.1.data=x.1.data}) (λy q_=>q_) (λy q_=>bx wu 283 (SI.cs (y.1.1,wu,x.2,y.1.2))::zc [((y.1.1,wu,x.2,y.1.2):SI)]::q_) ?fin ?main
  case fin=>
   rintro⟨⟨y,pa,pc⟩,hy,hyd⟩;dsimp only at hy hyd ⊢;rw[hy]at vy;refine xZ ?_;intro b83;refine eD (((y,wu,x.2,(pa,pc)):SI)) U U U U av U iA iA iA iA iA av λa84 c84=>xS ?_;refine be2 Q ((y,wu,x.2,(pa,pc)):SI) ?_;refine aa8 Q ((y,wu,x.2,(pa,pc)):SI) ?_;have HU:(Q++[((y,wu,x.2,(pa,pc)):SI)]).map (·.1)=Q.map (·.1)++[y]:=nH;exact X.W (ih ⟨(i+1,(a84,c84),Q++[((y,wu,x.2,(pa,pc)):SI)]),by omega,by grind⟩ bE)
  case main=>
   intro KK dW;have nopair:(match(none:Option Bs)with
    |none=>some (⟨(bJ x.1.name).2,x.1.data,false,[]⟩:Src)
    |some h=>some ⟨(bJ x.1.name).2,x.1.data,(gq h (iC x.1.data)).2==1,(gq h (iC x.1.data)).1⟩)=some ⟨(bJ x.1.name).2,x.1.data,false,[]⟩:=U
   refine xB ?_ ?_<;>intro h2
   ·have h2:(eY x.1.name).2=true:=h2;rw[if_pos h2,hbg]at Qn;have hfg:=an3 q (eY x.1.name).1;refine xS ?_;refine MO (eY x.1.name).1 U U U U ?_;rw[hfg];cases aK9:q.reverse.find? (λx_1=>x_1.1.name==(eY x.1.name).1)with
    |none=>
     rw[aK9]at Qn;dsimp only[Option.map_none,Option.getD_none,Option.isSome_none]at Qn ⊢;exact JX
    |some hf=>
     rw[aK9]at Qn;have hhm:hf∈q:=bE;obtain⟨hh1,hh2⟩:=hb _ hhm;dsimp only[bH,bX,Option.isSome_some]at Qn ⊢;refine oI (data:=bn.data) q hf hhm λhy1 hy2=>?_;refine xJ (Dh GG x.2.1 _ x.2.2 x.1.data U jz av) ?_;refine bw (Ad GG hf.2.1 _ hf.2.2 hf.1.data (iC x.1.data) U hy1 hh2) ?_;have hwn:=@II hf.1.data (iC x.1.data);generalize gq hf.1.data (iC x.1.data)=W at*;rintro v B (⟨hw,a5,c5,rfl,rfl⟩|⟨hw,rfl,rfl⟩)
     ·dsimp only[ae,ai,ah];refine dE a5 Ptr.cs W.1 U U (λ_=>rfl) λ_=>xS ?_;have Ob:(W.2==1)=true:=by rw[hw];rfl
      simp only[beq_self_eq_true];rw[Ob]at Qn;refine UJ ((⟨(bJ x.1.name).2,x.1.data,true,W.1⟩,wu,x.2,(a5,c5)):SI) jz mD ?_;exact X.W (dW ⟨(⟨(bJ x.1.name).2,x.1.data,true,W.1⟩,(a5,c5)),Qn,U⟩)
     ·dsimp only[ae,ai,ah];have Ob:(W.2==1)=false:=bE;rw[Ob,hwn hw]at Qn;refine xS ?_;rw[Ob];exact bk5
   ·have h2:¬(eY x.1.name).2=true:=by grind
    rw[if_neg h2]at Qn;exact JX
 have fw:i=q.length:=bE
 subst fw
 rw[aD nH]at hQ
 refine xS ?_
 exact X.ret Sj (.tmps U) ⟨_,⟨a6,c6,Q,hQ,U,U⟩,ay⟩
theorem G3{α:Type}(p:α->Bool):∀(l:List α) (k:Nat),0<=cy p k l->∃(j:Nat) (h:j<l.length),cy p k l=((k+j:Nat):Int)/\p l[j]=true
 |[],_,h=>by grind [cy]
 |x::r,k,h=>by
  unfold cy at h ⊢;split
  ·rename_i hp;exact⟨0,by simp,by simp,hp⟩
  ·rename_i hp;rw[if_neg hp]at h;obtain⟨j,hj,h1,h2⟩:=G3 p r (k+1) h;exact⟨j+1,by simp;omega,by omega,h2⟩
theorem Ot{step:σ->Src->Place->Bool->σ}{I:σ->Prop}(hs:∀z s p r,s∈l->s.uX=true->I z->I (step z s p r))(ps:List Place)(z:σ)(h:I z):I (oX step l ps z):=by
 have h1:∀(s:Src) (p:Place) (xs:List Ptr) (z:σ),s∈l->s.uX=true->I z->I (xi step s p z xs):=by
  intro s p xs;induction xs<;>grind [xi]
 have h2:∀(z:σ) (p:Place),I z->I (Oj step l z p):=by
  grind [Oj,G3,tO,Lh]
 unfold oX;induction ps generalizing z<;>grind
theorem G4:∀(l:List Src) (g:List UInt32),(g++l.map (·.no)).Nodup->l.foldl (λg s=>if s.no∈g then g else g++[s.no]) g=g++l.map (·.no)
 |[],g,_=>by simp
 |s::r,g,h=>by
  have hn:s.no∉g:=by
   intro hm;rw[eP]at h;exact h.2.2 s.no hm s.no nH U
  rw[cY,if_neg hn,G4 r (g++[s.no]) BU];simp
theorem Ep{l:List Src}(h:(l.map (·.no)).Nodup):oY l=l.map (·.no):=by
 grind [oY,G4]
theorem Er(ps:List Place):(om l ps).Sublist (oY l):=by
 unfold om;refine vM (I:=λg:List UInt32=>g.Sublist (oY l)) ?_ l ps _ (List.Sublist.refl _);intro z s p r h;unfold oh;split
 ·exact h
 ·exact List.erase_sublist.trans h
theorem S0{l:List Src}(h:(l.map (·.no)).Nodup)(hb:lO l ps=false):nz l ps=l:=by
 have h1:=Er l ps;rw[Ep h]at h1;unfold lO at hb;have h2:om l ps=l.map (·.no):=bE;unfold nz;rw[h2];conv=>rhs;rw[<-List.map_id l]
 refine bQ λs hs=>?_;have:s.no∈l.map (·.no):=bj.2 ⟨s,hs,U⟩;simp[this]
theorem an4{α:Type}:∀{g k:List α},g.Sublist k->k.Nodup->(∀x∈k,x∈g)->g=k:=by
 intro g k h;induction h<;>grind
def Es(l:List Src):Nat:=l.countP (·.uX)
theorem aL1:∀{l:List Src},(l.map (·.no)).Nodup->∀{s t:Src},s∈l->t∈l->s.no=t.no->s=t
 |[],_,s,t,h,_,_=>by cases h
 |x::r,hn,s,t,h1,h2,he=>by
  rw[aK,gA]at hn;rcases bK.1 h1 with h3|h1
  ·rcases bK.1 h2 with h4|h2
   ·rw[h3,h4]
   ·exact absurd (bj.2 ⟨t,h2,by rw[<-he,h3]⟩) hn.1
  ·rcases bK.1 h2 with h4|h2
   ·exact absurd (bj.2 ⟨s,h1,by rw[he,h4]⟩) hn.1
   ·exact aL1 hn.2 h1 h2 he
theorem G5{α:Type}{p q:α->Bool}:∀{l:List α},(∀x∈l,q x=true->p x=true)->(∃x∈l,p x=true/\q x=false)->l.countP q<l.countP p
 |[],_,h=>by grind
 |y::r,h1,h2=>by
  have hle:r.countP q<=r.countP p:=List.countP_mono_left λx hx=>h1 x (List.mem_cons_of_mem _ hx)
  rw[List.countP_cons,List.countP_cons]
  obtain⟨x,hx,hp,hq⟩:=h2
  rcases bK.1 hx with rfl|hx
  ·grind
  ·have ih:=G5 (l:=r) (λx hx=>h1 x (List.mem_cons_of_mem _ hx)) ⟨x,hx,hp,hq⟩
   grind
theorem G6{l:List Src}(h:(l.map (·.no)).Nodup)(hb:lO l ps=true):Es (nz l ps)<Es l:=by
 have hun:∀s∈l,s.uX=false->s.no∈om l ps:=by
  unfold om;refine Ot (I:=λg=>∀s∈l,s.uX=false->s.no∈g) l ?_ ps _ ?_;all_goals grind [oh,aL1,Ep]
 have hex:∃s∈l,s.uX=true/\s.no∉om l ps:=by
  grind [Er,Ep,an4,lO]
 unfold Es nz
 rw[List.countP_map]
 obtain⟨s,hs,h1,h2⟩:=hex
 refine G5 (λx _ hq=>?_) ⟨s,hs,h1,by simp[h2]⟩
 grind
def Src.rest(s:Src):UInt32×Bs×List Ptr:=(s.no,s.data,s.fk)
def iF(l:List Src):Nat:=(l.map λs=>s.data.length+s.fk.length).sum
theorem Lm(ps:List Place):(nz l ps).map Src.rest=l.map Src.rest:=by
 unfold nz;rw[cz];rfl
theorem ze{l:List Src}(h:l'.map Src.rest=l.map Src.rest):l'.map (·.no)=l.map (·.no):=by
 have:=congrArg (List.map λx:UInt32×Bs×List Ptr=>x.1) h;rw[cz,cz]at this;exact this
theorem uZ{l:List Src}(h:l'.map Src.rest=l.map Src.rest):iF l'=iF l:=by
 have:=congrArg (λz=>(List.map (λx:UInt32×Bs×List Ptr=>x.2.1.length+x.2.2.length) z).sum) h;simp only[cz]at this;exact this
theorem X0{l:List Src}(h:l'.map Src.rest=l.map Src.rest):l'.length=l.length:=by
 have:=congrArg dq h;grind
theorem Et{l:List Src}{s:Src}(h:s∈l):s.data.length+s.fk.length<=iF l:=by
 unfold iF;induction l<;>grind
theorem Ln:(gM s).length<=s.data.length+s.fk.length:=by
 grind [gM,qC,aZ]
theorem qF:jO l<=iF l:=by
 unfold jO iF;induction l<;>grind [Ln]
theorem vN:(gQ l).ok/\dI (gQ l)<=jO l:=by
 have key:∀(l:List Src) (d:dR),d.ok->(l.foldl zd d).ok/\dI (l.foldl zd d)<=dI d+jO l:=by
  intro l;induction l<;>grind [qe,jO,zd]
 have:=key l [] ⟨List.nodup_nil,λx hx=>ua,λx hx=>ua⟩
 grind [dI,gQ]
def nA(d:dR)(ks:List Bs):List Place:=ks.filterMap λk=>if(d.last k).2=0/\(d.last k).1.open_=false then some (d.last k).1.place else none
def vO(l:List Src):List Place:=nA (mn l (gQ l)) (sortStr ((qE l).map (·.1)))
def nB(l:List Src):Option (List Src):=
 if lO l (gQ l).jV=true then some (nz l (gQ l).jV)
 else if lO l (vO l)=true then some (nz l (vO l))else none
def nC:Nat->List Src->List Src
 |0,l=>l
 |n+1,l=>match nB l with
  |none=>l
  |some l'=>nC n l'
def iN(l:List Src):List Src:=nC (Es l+1) l
theorem pR{l:List Src}(h:(l.map (·.no)).Nodup)(h1:nB l=some l'):Es l'<Es l/\l'.map Src.rest=l.map Src.rest:=by
 unfold nB at h1;split at h1
 ·exact aw6
 ·split at h1
  ·exact aw6
  ·cases h1
theorem zf:∀(n m:Nat) (l:List Src),(l.map (·.no)).Nodup->Es l<n->Es l<m->nC n l=nC m l
 |0,_,_,_,h,_=>by omega
 |_+1,0,_,_,_,h=>by omega
 |n+1,m+1,l,hn,h1,h2=>by
  unfold nC;cases hs:nB l with
  |none=>rfl
  |some l'=>
   obtain⟨h3,h4⟩:=pR hn hs;exact zf n m l' (by rw[ze h4];exact hn) av av
theorem IJ{l:List Src}(h:nB l=none):iN l=l:=by
 grind [iN,nC]
theorem IK{l:List Src}(hn:(l.map (·.no)).Nodup)(h:nB l=some l'):iN l=iN l':=by
 grind [pR,iN,nC,zf,ze]
theorem zg:∀(n:Nat) (l:List Src),(l.map (·.no)).Nodup->(nC n l).map Src.rest=l.map Src.rest
 |0,_,_=>rfl
 |n+1,l,hn=>by
  unfold nC;cases hs:nB l with
  |none=>rfl
  |some l'=>
   obtain⟨_,h4⟩:=pR hn hs;exact(zg n l' (by rw[ze h4];exact hn)).trans h4
theorem zh{l:List Src}(hn:(l.map (·.no)).Nodup):(iN l).map Src.rest=l.map Src.rest:=zg _ l hn
section
variable {b:Frame}{β:bS}{k:Kt}{E:Env}{Hs:List az}{R:Ending->List az->Prop}{cc:Option (Array Oper×List Oper)}
theorem av0[hf:FP Hs (zc q) F](h:(∀x∈q,x.1.data.length<=x.2.2.1.2)->X ab b β cc k E Hs R):X ab b β cc k E Hs R:=by
 refine jo λw hs=>?_;have h1:=Sat.ro (hs.cd hf.out);exact⟨_,hs,h λx hx=>(h1 x hx).1.1⟩
theorem an5{a:Option Addr}{q q':List SI}(h:q'.map (λx=>x.2.1)=q.map (λx=>x.2.1)){r:Hp}(hr:vW (bp El) 1 a q r):vW (bp El) 1 a q' r:=by
 have hl:q'.length=q.length:=by have:=congrArg dq h;simpa using this
 rcases hr with h3|⟨b,o',ha,h4⟩
 ·left;rw[h3]at hl;exact List.length_eq_zero_iff.1 (by simpa using hl)
 ·refine .inr ⟨b,o',ha,λi x hx=>?_⟩;have hi:i<q'.length:=(List.getElem?_eq_some_iff.1 hx).1;have mD:q'[i]=x:=(List.getElem?_eq_some_iff.1 hx).2;have FL:i<q.length:=av;obtain⟨l,h5,h6,h7⟩:=h4 i q[i] (aV FL);refine⟨l,h5,h6,?_⟩;have h8:q'[i].2.1=q[i].2.1:=by
   have:=congrArg (λz=>z[i]?) h;simp only[dO,aV hi,aV FL,bH,fF]at this;exact this
  show l=El x;rw[<-mD];show l=[au q'[i].2.1];rw[h8];exact h7
theorem MB(q':List SI)(hq:q'.map (λx=>x.2.1)=q.map (λx=>x.2.1))[hf:FP Hs (bV (bp El) 1 a q) F](h:X ab b β cc k E (bV (bp El) 1 a q'::Hs) R):X ab b β cc k E Hs R:=
 X.cd (il (p:=vW (bp El) 1 a q) hf.out λ_ hr=>an5 hq hr) h
end
theorem Eu(f:Src->Bool)(q:List SI):(q.map (jW f)).map (λx=>x.2.1)=q.map (λx=>x.2.1):=by rw[cz];rfl
theorem Ev(f:Src->Bool)(q:List SI):∀y∈q.map (jW f),∃x∈q,y.1.data=x.1.data/\y.1.fk=x.1.fk/\y.2.2=x.2.2:=by
 intro y hy;obtain⟨x,hx,rfl⟩:=bj.1 hy;exact⟨x,hx,U,U,U⟩
theorem IL(h:i<ks.length):nA d (ks.take (i+1))=if(d.last ks[i]).2=0/\(d.last ks[i]).1.open_=false then nA d (ks.take i)++[(d.last ks[i]).1.place]else nA d (ks.take i):=by
 unfold nA;rw[aY,List.filterMap_append,aV h];split<;>rename_i hp<;>simp[hp]
theorem Lo:(nA d (ks.take i)).length<=ks.length:=
 aj (List.length_filterMap_le _ _) (by rw[cB];omega)
theorem S1(l:List Seen):(tP l).length<=l.length:=by
 have key:∀(l:List Seen) (M:List (Bs×Value)),(l.foldl (λM s=>gJ M s.key Em) M).length<=M.length+l.length:=by
  intro l;induction l with
  |nil=>exact λM=>ar _
  |cons x r ih=>
   intro M;rw[cY];have h1:=ih (gJ M x.key Em);have h2:(gJ M x.key Em).length<=M.length+1:=by
    have:=congrArg dq (rX M x.key Em);rw[aA]at this;rw[this];split<;>simp
   exact aJ4
 have:=key l [];simpa[tP]using this
theorem Ou:(qE l).length<=jO l:=by
 unfold qE;refine aj (S1 _) ?_;rw[List.length_flatMap];exact ar _
theorem Ew{q:List SI}(h:((q.map (·.1)).map (·.no)).Nodup)(hb:lO (q.map (·.1)) ps=false):q.map (jW (mH (q.map (·.1)) ps))=q:=by
 have h1:=uY q ps;rw[S0 h hb,cz]at h1;have h2:=List.map_inj_left.1 h1;conv=>rhs;rw[<-List.map_id q]
 refine bQ λx hx=>?_;have h3:=h2 x hx;exact Prod.ext h3 U
theorem Ov(q0:List SI)(hn:q0.length=n)(hs:n<=1000000000000)(jd:((q0.map (·.1)).map (·.no)).Nodup)(hf:iF (q0.map (·.1))<=1000000000):
 TR ab GG 177 #[.slice a n c] [bV (bp El) 1 a q0,cV (q0.map r9),zc q0] (cb λv B=>v=.tuple #[]/\∃q:List SI,q.map (·.1)=iN (q0.map (·.1))/\B=[cV (q.map r9),zc q,bV (bp El) 1 a q]):=by
 refine cg U λb β hb hG=>xS ?_
 refine X.loop (ι:={q:List SI // q.length=n/\((q.map (·.1)).map (·.no)).Nodup/\iF (q.map (·.1))<=1000000000/\iN (q.map (·.1))=iN (q0.map (·.1))}) (λq=>([(0,.slice a n c)],[bV (bp El) 1 a q.1,cV (q.1.map r9),zc q.1])) (λq=>Es (q.1.map (·.1))) ⟨q0,hn,jd,hf,U⟩ (Sub.of U) ay ?_
 rintro⟨q,hqn,Z9,hqf,hqs⟩ ih
 dsimp only at hqn Z9 hqf hqs ih ⊢
 have YS:=qF (q.map (·.1))
 have RT:∀x∈q,x.1.data.length<=1000000000/\x.1.fk.length<=1000000000:=by
  intro x hx
  have:=Et (bj.2 ⟨x,hx,U⟩:x.1∈q.map (·.1))
  omega
 have zJ:=vN (q.map (·.1))
 have hfk:=Ou (q.map (·.1))
 refine av0 q λrn=>xS ?_
 refine ei hG (Lg a n c q hqn hs RT (by omega)) U U U iv ?_
 rintro v B ⟨K,KM,rfl,rfl⟩
 refine xD ?_
 refine ei hG (AG GG K (gQ (q.map (·.1))) (by omega)) U U U iv ?_
 rintro v B ⟨a6,c6,rfl,rfl⟩
 dsimp only[ae,ai,ah]
 have N7:=xh (gQ (q.map (·.1)))
 have Bi:nB (q.map (·.1))=if lO (q.map (·.1)) (gQ (q.map (·.1))).jV=true then some (nz (q.map (·.1)) (gQ (q.map (·.1))).jV)
  else if lO (q.map (·.1)) (vO (q.map (·.1)))=true then some (nz (q.map (·.1)) (vO (q.map (·.1))))else none:=U
 have again:∀ps,lO (q.map (·.1)) ps=true->nB (q.map (·.1))=some (nz (q.map (·.1)) ps)->
  (q.map (jW (mH (q.map (·.1)) ps))).length=n/\(((q.map (jW (mH (q.map (·.1)) ps))).map (·.1)).map (·.no)).Nodup/\iF ((q.map (jW (mH (q.map (·.1)) ps))).map (·.1))<=1000000000/\iN ((q.map (jW (mH (q.map (·.1)) ps))).map (·.1))=iN (q0.map (·.1)):=by
  intro ps _ h2
  obtain⟨_,h4⟩:=pR Z9 h2
  refine⟨by rw[aA];exact hqn,?_,?_,?_⟩
  ·rw[uY,ze h4];exact Z9
  ·rw[uY,uZ h4];exact hqf
  ·rw[uY,<-IK Z9 h2];exact hqs
 have less:∀ps,lO (q.map (·.1)) ps=true->Es ((q.map (jW (mH (q.map (·.1)) ps))).map (·.1))<Es (q.map (·.1)):=by
  intro ps h1
  rw[uY];exact G6 Z9 h1
 generalize hrv:(gQ (q.map (·.1))).jV=ps at*
 refine dE a6 Place.cs ps U U (λ_=>rfl) λ_=>?_
 refine xO (Lj GG a n c q hqn hs RT a6 _ c6 ps U (by omega)) ?_
 refine xB ?_ ?_<;>intro h
 ·rw[if_pos h]at Bi
  refine av3 q (q.map (jW (mH (q.map (·.1)) ps))) (Ev _ q) ?_
  refine MB a q (q.map (jW (mH (q.map (·.1)) ps))) (Eu _ q) (xS ?_)
  exact X.W (ih ⟨_,again ps h Bi⟩ (less ps h))
 have h:lO (q.map (·.1)) ps=false:=by simpa using h
 rw[Ew Z9 h]
 rw[if_neg (by simp[h])]at Bi
 refine xQ (Eo K (gQ (q.map (·.1))) a n c q hqn hs (λx hx=>⟨rn x hx,RT x hx⟩) (by omega)) ?_
 have hds:=pQ (q.map (·.1)) (gQ (q.map (·.1))) 1000000000 (by omega)
 have Ue:vO (q.map (·.1))=nA (mn (q.map (·.1)) (gQ (q.map (·.1)))) (sortStr ((qE (q.map (·.1))).map (·.1))):=U
 generalize mn (q.map (·.1)) (gQ (q.map (·.1)))=d at*
 generalize qE (q.map (·.1))=KL at*
 refine xS ?_
 refine X.cd (ej 153 3 _) (xS ?_)
 refine ei hG (Vy GG KM) U U U aN.es ?_
 rintro v B ⟨p,rfl,rfl⟩
 refine xD ?_
 refine jc [bx p 286 [.map (some KM)],mp ao KM KL] ?_
 refine ei hG (qw GG 381 [au p] _ _ _ (Vz GG p KM KL) (λpre ⟨post,B4⟩=>?_) (λys B4=>?_)) U U U iv ?_
 ·have:=B4.length_eq
  simp at this;omega
 ·have:=B4.length_eq
  simp at this;omega
 rintro v B ⟨ys,yz,ka,kc,rfl,rfl⟩
 have wx:sortStr ys=sortStr (KL.map (·.1)):=ob yz
 rw[wx]
 dsimp only[ae,ai,ah]
 have Ud:(sortStr (KL.map (·.1))).length<=1000000000:=by rw[jh,aA];omega
 generalize sortStr (KL.map (·.1))=ks at*
 refine dE ka (λk:Bs=>[ao k]) ks U U (λ_=>rfl) λ_=>xS ?_
 refine eT [0,2,23] [1,4,1] (ι:={z:Nat×Option Addr×Nat // z.1<=ks.length}) (λz q_=>(4,.slice z.1.2.1 (nA d (ks.take z.1.1)).length z.1.2.2)::(24,aX ks.length)::(25,aX z.1.1)::q_) (λz q_=>own 153 3 z.1.2.1 (nA d (ks.take z.1.1)).length z.1.2.2 ((nA d (ks.take z.1.1)).flatMap Place.cs)::q_) (λz=>ks.length - z.1.1) ⟨(0,none,0),al _⟩ ?_
 rintro⟨⟨i,a2,c2⟩,hi⟩ pG
 dsimp only at hi pG ⊢
 have Fj:=Lo d ks i
 refine xB ?_ ?_<;>intro h1
 ·have hi:i<ks.length:=by simp at h1;omega
  have Mt:=IL d ks i hi
  generalize nA d (ks.take i)=Z at*
  refine xS ?_
  refine cH U U U U U hi U λbl o=>?_
  generalize ks[i]=k at*
  refine xQ (Qk GG K d k hds) ?_
  generalize d.last k=g at*
  refine xA ?_
  intro b7
  refine xT 37 ?_ ?_<;>intro h2
  ·have h2:g.2=0:=by simpa using h2
   refine xB ?_ ?_<;>intro h3
   ·have h3:g.1.open_=false:=by simpa using h3
    rw[if_pos ⟨h2,h3⟩]at Mt
    refine xZ ?_
    intro b9
    refine eD (g.1.place) U U U U (by first|rfl|assumption) rfl (by rfl) (by rfl) (by rfl) (by rfl) (by rfl) (by omega) λa8 c8=>xS ?_
    refine X.less (pG ⟨(i+1,a8,c8),by dsimp only;omega⟩ (by dsimp only;omega)) ?_ ?_
    ·dsimp only;rw[Mt]
     exact(YX U U U U U (eN U (by simp[aX])))
    ·dsimp only;rw[Mt];exact ay
   ·have h3:¬g.1.open_=false:=by simpa using h3
    rw[if_neg (λh=>h3 h.2)]at Mt
    refine xS ?_
    refine X.less (pG ⟨(i+1,a2,c2),by dsimp only;omega⟩ (by dsimp only;omega)) ?_ ?_
    ·dsimp only;rw[Mt]
     exact(YX U U U U U (eN U (by simp[aX])))
    ·dsimp only;rw[Mt];exact ay
  ·have h2:¬g.2=0:=by simpa using h2
   rw[if_neg (λh=>h2 h.1)]at Mt
   refine xS ?_
   refine X.less (pG ⟨(i+1,a2,c2),by dsimp only;omega⟩ (by dsimp only;omega)) ?_ ?_
   ·dsimp only;rw[Mt]
    exact(YX U U U U U (eN U (by simp[aX])))
   ·dsimp only;rw[Mt];exact ay
 have fw:i=ks.length:=by simp at h1;omega
 subst fw
 rw[bh]at Fj ⊢
 rw[<-Ue]at Fj ⊢
 clear Ue pG
 generalize vO (q.map (·.1))=ps2 at*
 refine dE a2 Place.cs ps2 U U (λ_=>rfl) λ_=>?_
 refine xO (Lj GG a n c q hqn hs RT a2 _ c2 ps2 U (by omega)) ?_
 refine xB ?_ ?_<;>intro h2
 ·have h2:lO (q.map (·.1)) ps2=false:=by simpa using h2
  rw[if_neg (by simp[h2])]at Bi
  rw[Ew Z9 h2]
  refine xS ?_
  exact bO hb (.tmps U) ⟨U,q,by rw[<-hqs,IJ Bi],U⟩
 ·have h2:lO (q.map (·.1)) ps2=true:=by simpa using h2
  rw[if_pos h2]at Bi
  refine av3 q (q.map (jW (mH (q.map (·.1)) ps2))) (Ev _ q) ?_
  refine MB a q (q.map (jW (mH (q.map (·.1)) ps2))) (Eu _ q) (xS ?_)
  exact X.W (ih ⟨_,again ps2 h2 Bi⟩ (less ps2 h2))
section
variable {I:Mk->Prop}(hI:∀(m:Mk) (s:eH) (m':Mk),I m->m.do s=.ok m'->I m')(hc:∀(m:Mk) (a:Nat) (t:UInt64) (f j:Nat),I m->I {m with gu:=a,top:=t,bz:=f,cD:=j})
include hI in
theorem sC{m m':Mk}{nm d:Bs}(h:I m)(e:m.ahead nm d=.ok m'):I m':=by
 grind [Mk.ahead]
include hI in
theorem Jo{m:Mk}{j:Bs}{z:Mk×Bs}(h:I m)(e:m.v7 j=.ok z):I z.1:=by
 unfold Mk.v7 at e;split at e
 ·cases e
 ·rename_i m1 h1;cases e;exact sC hI h h1
include hI in
theorem Jt{m:Mk}{nm b:Bs}{z:Mk×Int}(h:I m)(e:m.hint nm b=.ok z):I z.1:=by
 unfold Mk.hint at e;split at e
 ·split at e
  ·grind
  ·dsimp only at e
   split at e
   ·exact aw1
   grind
 ·split at e
  ·grind
  ·exact aw1
include hI hc in
theorem HG{m m':Mk}{f:bn}(h:I m)(e:m.clean f=.ok m'):I m':=by
 have h1:∀m1,m.od f=.ok m1->I m1:=by
  intro m1 e1
  unfold Mk.od at e1
  dsimp only at e1
  split at e1
  ·split at e1
   ·cases e1
   ·rename_i z hz
    have Gn:=Jo hI (hc m m.gu m.top _ _ h) hz
    split at e1
    ·grind
    ·exact sC hI Gn e1
  grind
 unfold Mk.clean at e;split at e
 ·cases e
 ·rename_i m1 e1;split at e
  ·cases e
  ·rename_i z hz;cases e;exact hc _ _ _ _ _ (Jt hI (h1 _ e1) hz)
theorem td{α:Type}{f:Mk->α->Except Int Mk}(hf:∀m x m',I m->f m x=.ok m'->I m'):∀(l:List α) (m m':Mk),I m->kR f l m=.ok m'->I m'
 |[],m,m',h,e=>by cases e;exact h
 |x::r,m,m',h,e=>by
  unfold kR at e;split at e
  ·cases e
  ·rename_i m1 h1;exact td hf r m1 m' (hf _ _ _ h h1) e
include hI hc in
theorem Ow{l:List bn}{m:Mk}(e:fI l cap ts=.ok m)(h0:lI l=true->(aZ l:Int)<=cap->cap<=4194304->I ⟨l,cap,[],0,0,0,0,aZ l⟩):I m:=by
 unfold fI at e;split at e
 ·cases e
 ·rename_i h;have h1:lI l=true:=by
   grind
  have h2:(aZ l:Int)<=cap:=av;have h3:cap<=4194304:=av;split at e
  ·cases e
  ·rename_i m1 e1;have i1:=td (λm x m' h e=>hI m _ m' h e) _ _ _ (h0 h1 h2 h3) e1;split at e
   ·cases e
   ·rename_i m2 e2;have i2:=td (f:=rb ts) (λm x m' h e=>by
     unfold rb at e
     split at e
     ·grind
     ·split at e
      ·cases e
      ·rename_i m3 e3;cases e;exact hc _ _ _ _ _ (HG hI hc h e3)) _ _ _ i1 e2
    exact td (f:=qB l) (λm x m' h e=>by
     grind [qB]) _ _ _ i2 e
end
theorem xj{l:List bn}(h:fI l cap ts≠.error 110):lI l=true/\(aZ l:Int)<=cap/\cap<=4194304:=by
 grind [fI]
theorem Ex:∀(ss:List eH) (l:List bn) (s:eH),uT l (ss++[s])=(uT l ss).bind λl'=>jg l' s
 |[],l,s=>by
  show(match jg l s with|none=>none|some l'=>some l')=jg l s
  grind
 |x::r,l,s=>by
  show(match jg l x with|none=>none|some l'=>uT l' (r++[s]))=(match jg l x with|none=>none|some l'=>uT l' r).bind _;cases jg l x with
  |none=>rfl
  |some l'=>exact Ex r l' s
theorem Ey{l:List bn}{cap:Int}{ts:List UInt32}{m:Mk}(e:fI l cap ts=.ok m):uT l m.steps=some m.now/\(aZ m.now:Int)<=m.cap/\m.cap=cap:=by
 refine Ow (I:=λm=>uT l m.steps=some m.now/\(aZ m.now:Int)<=m.cap/\m.cap=cap) ?_ (λm a t f j h=>h) e λ_ h2 _=>⟨U,h2,U⟩
 grind [Mk.do,Ex]
theorem zi{l:List bn}(h:lI l=true):(∀f∈l,dy f.name=true)/\(l.map (·.name)).Nodup:=by
 grind [lI]
theorem Lp{c:Nat}{n:UInt32}(h:uQ name c=some n):hU c n=name:=by
 grind [uQ]
theorem BD(h:(bJ name).1=1):hU 1 (bJ name).2=name:=by
 grind [bJ,Lp]
theorem xk{l:List bn}{f:bn}{s:Src}(h:pB l f=some s):(bJ f.name).1=1/\s.no=(bJ f.name).2/\s.data=f.data/\s.fk.length<=f.data.length:=by
 unfold pB at h;split at h;all_goals grind [gq,iC,lS]
theorem Qo{l:List bn}(h:(l.map (·.name)).Nodup):((tb l).map (·.no)).Nodup:=by
 have key:∀(L l:List bn),(l.map (·.name)).Nodup->((l.filterMap (pB L)).map (·.no)).Nodup/\∀s∈l.filterMap (pB L),∃f∈l,pB L f=some s:=by
  grind [xk,BD]
 exact(key l l h).1
theorem S3(l:List bn):iF (tb l)<=2*aZ l:=by
 have key:∀(L l:List bn),iF (l.filterMap (pB L))<=2*aZ l:=by
  intro L l;induction l with
  |nil=>exact al _
  |cons f r ih=>
   have h1:aZ (f::r)=f.data.length+aZ r:=KD;rw[h1,eI];split
   ·omega
   ·rename_i s hs
    have a1:=xk hs
    grind [iF]
 exact key l l
def thenS(f:bn)(s:Src):Src:=if(bJ f.name).1=1/\s.no=(bJ f.name).2 then {s with data:=f.data}else s
def qG(l:List Src)(fs:List bn):List Src:=fs.foldl (λl f=>l.map (thenS f)) l
def tQ(l:List Src):List UInt32:=(l.filter (·.uX)).map (·.no)
theorem Ox(fs:List bn)(i:Nat)(h:i<fs.length):qG l (fs.take (i+1))=(qG l (fs.take i)).map (thenS fs[i]):=by
 grind [qG,aY]
theorem X1(f:bn)(s:Src):(thenS f s).no=s.no:=by grind [thenS]
theorem Ez(f:bn)(s:Src):(thenS f s).fk=s.fk:=by grind [thenS]
theorem zj(f:bn):(l.map (thenS f)).map (·.no)=l.map (·.no):=by
 grind [bQ,X1]
theorem EA(f:bn):∀(l:List Src),(l.map (·.no)).Nodup->iF (l.map (thenS f))<=iF l+f.data.length
 |[],_=>al _
 |s::r,hn=>by
  have e:∀(s:Src) (r:List Src),iF (s::r)=s.data.length+s.fk.length+iF r:=by grind [iF]
  rw[aK,gA]at hn
  have ih:=EA f r hn.2
  rw[aK,e,e,Ez]
  by_cases h:(bJ f.name).1=1/\s.no=(bJ f.name).2
  ·have h1:(thenS f s).data=f.data:=by grind [thenS]
   have h2:r.map (thenS f)=r:=by
    conv=>rhs;rw[<-List.map_id r]
    grind [bQ,thenS]
   grind
  grind [thenS]
theorem EB:∀(fs:List bn) (l:List Src),(l.map (·.no)).Nodup->(qG l fs).map (·.no)=l.map (·.no)/\iF (qG l fs)<=iF l+aZ fs
 |[],l,_=>⟨U,by show iF l<=_;omega⟩
 |f::r,l,hn=>by
  have h1:=EB r (l.map (thenS f)) (by rw[zj];exact hn);have h2:=EA f l hn;have h3:aZ (f::r)=f.data.length+aZ r:=KD;have h4:qG l (f::r)=qG (l.map (thenS f)) r:=U;rw[h4,h3];exact⟨h1.1.trans (zj l f),by have:=h1.2;omega⟩
def BE(l:List Src):dR:=mn l (gQ l)
def G7(r:Except Int Mk):Bool:=match r with
 |.error e=>e==110
 |.ok _=>false
def pj(l:List bn)(cap:Int):Except Int (Mk×dR):=
 if G7 (fI l cap [])=true then .error 110 else
 match fI l cap (tQ (iN (tb l)))with
 |.error e=>.error e
 |.ok m=>.ok (m,BE (qG (iN (tb l)) (pA m.now)))
theorem Lq{r:Except Int Mk}(h:G7 r≠true):r≠.error 110:=by
 rintro rfl;exact h U
def AJ(f:SI->SI)(q:List SI)(i:Nat):List SI:=(q.take i).map f++q.drop i
theorem Lr(i:Nat):(AJ f q i).length=q.length:=by
 unfold AJ;rw[aG,aA,<-aG,cP]
theorem X2(i:Nat)(h:i<q.length):(AJ f q i).set i (f q[i])=AJ f q (i+1):=by
 unfold AJ;have h1:((q.take i).map f).length=i:=Dl;exact aE6
theorem X3(i:Nat)(h:i<q.length):(AJ f q i)[i]'(by rw[Lr];exact h)=q[i]:=by
 have h1:((q.take i).map f).length=i:=Dl;have h2:(AJ f q i)[i]?=some q[i]:=by
  unfold AJ;exact aF3
 exact(List.getElem?_eq_some_iff.1 h2).2
theorem X4:AJ f q q.length=q.map f:=by unfold AJ;rw[bh,List.drop_length,ah]
@[reducible] def qH(x:WB bn)(y:SI):SI:=if(bJ x.1.name).1=1/\y.1.no=(bJ x.1.name).2 then(⟨y.1.no,x.1.data,y.1.uX,y.1.fk⟩,y.2.1,x.2,y.2.2.2)else y
theorem an7:(qH x y).1=thenS x.1 y.1:=by unfold qH thenS;split<;>rfl
theorem an8:(qH x y).2.1=y.2.1:=by unfold qH;split<;>rfl
theorem S4:(q.map (qH x)).map (·.1)=(q.map (·.1)).map (thenS x.1):=by
 rw[cz,cz];exact bQ λy _=>an7 x y
theorem G8:(q.map (qH x)).map (λy=>y.2.1)=q.map (λy=>y.2.1):=by
 rw[cz];exact bQ λy _=>an8 x y
section
variable {b:Frame}{β:bS}{k:Kt}{E:Env}{Hs:List az}{R:Ending->List az->Prop}{cc:Option (Array Oper×List Oper)}
theorem bd4(q7:List (WB bn))(x:WB bn)(hx:x∈q7)[hf:FP Hs (zc q) F][hr:P1 Hs bn.data q7](h:X ab b β cc k E (zc (q.map (qH x))::Hs) R):X ab b β cc k E Hs R:=by
 obtain⟨F2,hF2⟩:=hr.out
 refine X.cd ?_ h
 intro r o hh
 obtain⟨_,_,_,_,_,kL,_⟩:=hf.out r o hh
 obtain⟨_,_,_,_,_,tK,_⟩:=hF2 r o hh
 refine⟨fL,o,cR _,cJ _,.refl _,λr' nG y hy=>?_,hh⟩
 obtain⟨z,hz,rfl⟩:=bj.1 hy
 have h1:=kL r' nG z hz
 have h2:=tK r' nG x hx
 unfold qH
 split
 ·exact⟨h2,h1.2⟩
 ·exact h1
end
theorem Oy(h:i<l.length):tQ (l.take (i+1))=if l[i].uX=true then tQ (l.take i)++[l[i].no]else tQ (l.take i):=by
 unfold tQ;rw[aY,aV h,List.filter_append,cq];show _++List.map _ (List.filter _ [l[i]])=_;rw[List.filter_cons];split
 ·rfl
 ·simp
theorem S5:(tQ (l.take i)).length<=l.length:=by
 unfold tQ;rw[aA];refine aj (dD _ _) ?_;rw[cB];omega
theorem X5(cap:Int)(a:Option Addr)(n c:Nat)(q:List (WB bn))(hn:q.length=n)(hs:n<=60000000000)(h0:a=none->n=0/\c=0)(hu:aZ (q.map (·.1))<=1000000000000)(ta:Option Addr)(tn tc:Nat)(ts:List UInt32)(Xz:ts.length=tn)(YS:tn<=1000000000000):
 TR ab GG 121 #[.slice a n c,.int .i64 cap,.slice ta tn tc] [bV (bp bG) 2 a q,dz bn.data q,bV RU 1 ta ts] (cb λv B=>∃x1 n1 c1 x2 n2 c2,∃x3 x4 x5 x6 e:Int,v=.tuple #[.agg #[.slice x1 n1 c1,.slice x2 n2 c2,.int .u64 x3,.int .i64 x4,.int .i64 x5,.int .i64 x6],.int .i64 e]/\(e=110↔G7 (fI (q.map (·.1)) cap ts)=true)/\B=[]):=by
 refine(Iz cap a n c q hn hs h0 hu ta tn tc ts Xz YS).dH (aN.refl _) ?_
 rintro e B hB
 cases e with
 |panicked ch=>exact hB.elim
 |outgrown=>exact hB.elim
 |returned v=>
  refine⟨[],?_,aN.nil _⟩;have hB:aH6 (fI (q.map (·.1)) cap ts) v B:=hB;show ∃x1 n1 c1 x2 n2 c2,∃x3 x4 x5 x6 e:Int,_;cases hp:fI (q.map (·.1)) cap ts with
  |error e=>
   rw[hp]at hB;obtain⟨rfl,rfl⟩:=hB;exact⟨_,_,_,_,_,_,_,_,_,_,e,U,by simp[G7],U⟩
  |ok m=>
   rw[hp]at hB;obtain⟨ss,sa,sc,fa,fc,fx,iz,rfl,rfl⟩:=hB;exact⟨_,_,_,_,_,_,_,_,_,_,0,U,by simp[G7],U⟩
def bx4(r:Except Int (Mk×dR))(v:Value)(B:List az):Prop:=match r with
 |.error e=>v=.tuple #[.agg z183.toArray,.pointer none,.int .i64 e]/\B=[]
 |.ok z=>∃ss:List (WB eH),∃sa sc fa fc K,ss.map (·.1)=z.1.steps/\v=.tuple #[.agg #[.slice sa ss.length sc,.slice fa z.1.gu fc,.int .u64 z.2.top,.int .i64 z.1.bz,.int .i64 z.1.cD,.int .i64 z.1.ky],au K,.int .i64 0]/\B=[gS K z.2,bV (bp db) 5 sa ss,dz eH.data ss]
theorem S6(cap:Int)(a:Option Addr)(n c:Nat)(q:List (WB bn))(hn:q.length=n)(hs:n<=50000000000)(h0:a=none->n=0/\c=0)(hu:aZ (q.map (·.1))<=1000000000000):
 TR ab GG 124 #[.slice a n c,.int .i64 cap] [bV (bp bG) 2 a q,dz bn.data q] (cb (bx4 (pj (q.map (·.1)) cap))):=by
 subst hn
 refine aW U λb β hb hG=>?_
 generalize bu:pj (q.map (·.1)) cap=res
 unfold pj at bu
 refine xA ?_
 intro b4
 refine jl UInt32 RU 1 ?_
 refine ei hG (X5 cap a _ c q U (by omega) h0 hu none 0 0 [] U (by decide)) U U U iv ?_
 rintro v B ⟨x1,n1,c1,x2,n2,c2,x3,x4,x5,x6,e0,rfl,he0,rfl⟩
 refine xD ?_
 refine xA ?_
 intro b7
 refine xB ?_ ?_<;>intro h1
 ·have h1:e0=110:=by simpa using h1
  rw[if_pos (he0.1 h1)]at bu
  subst h1
  subst bu
  refine xS ?_
  exact bO hb (.gX U (by rfl) (.tmp U (.tmp U .nil))) ⟨U,U⟩
 have h1:¬G7 (fI (q.map (·.1)) cap [])=true:=by intro h;have:=he0.2 h;simp[this]at h1
 rw[if_neg h1]at bu
 have qO:=xj (Lq h1)
 obtain⟨dp,jd⟩:=zi qO.1
 clear he0 h1
 have hus:aZ (q.map (·.1))<=4194304:=by omega
 have XA:∀x∈q,x.1.name.length<=1000000/\x.1.data.length<=1000000000:=by
  intro x hx
  obtain⟨i,hi,rfl⟩:=List.mem_iff_getElem.1 hx
  have h1:=oW (q.map (·.1)) i (by simpa using hi)
  have h2:=rY (q.map (·.1)) (i+1)
  rw[ft]at h1
  have h3:=jT (dp _ (bj.2 ⟨_,hx,U⟩))
  exact⟨by omega,by omega⟩
 refine xS ?_
 refine ei hG (Oq a _ c q U (by omega) XA) U U U iv ?_
 rintro v B ⟨a9,c9,q9,hq9,rfl,rfl⟩
 dsimp only[ae,ai,ah]
 have wx:=Qo jd
 have hsf:=S3 (q.map (·.1))
 have sI:(tb (q.map (·.1))).length<=q.length:=by
  have:=List.length_filterMap_le (pB (q.map (·.1))) (q.map (·.1))
  rw[aA]at this;exact this
 rw[<-hq9]at wx hsf sI bu
 rw[aA]at sI
 refine dE a9 El q9 U U (λ_=>rfl) λ_=>xS ?_
 refine ei hG (Ov a9 _ c9 q9 U (by omega) wx (by omega)) U U U iv ?_
 rintro v B ⟨rfl,q1,Ua,rfl⟩
 dsimp only[ae,ai,ah]
 have qV:=zh wx
 rw[<-Ua]at qV bu
 have C9:q1.length=q9.length:=by have:=X0 qV;simpa using this
 have hsn1:((q1.map (·.1)).map (·.no)).Nodup:=by rw[ze qV];exact wx
 have hsf1:iF (q1.map (·.1))<=2*aZ (q.map (·.1)):=by rw[uZ qV];exact hsf
 rw[<-C9]at sI ⊢
 clear C9 qV wx hsf Ua hq9
 refine xS ?_
 refine X.cd (ej 139 1 _) ?_
 refine X.loop (ι:={z:Nat×Option Addr×Nat // z.1<=q1.length}) (λz=>([(0,.slice a q.length c),(1,.int .i64 cap),(4,au b4),(9,.slice a9 q1.length c9),(10,.slice z.1.2.1 (tQ ((q1.map (·.1)).take z.1.1)).length z.1.2.2),(38,.slice a9 q1.length c9),(39,aX q1.length),(40,aX z.1.1)],[own 139 1 z.1.2.1 (tQ ((q1.map (·.1)).take z.1.1)).length z.1.2.2 ((tQ ((q1.map (·.1)).take z.1.1)).flatMap λu:UInt32=>[.int .u32 u.toNat]),cV (q1.map r9),zc q1,bV (bp El) 1 a9 q1,bx b4 183 z183,bV (bp bG) 2 a q,dz bn.data q])) (λz=>q1.length - z.1.1) ⟨(0,none,0),al _⟩ (Sub.of U) (show aN _ [own 139 1 none 0 0 [],cV (q1.map r9),zc q1,bV (bp El) 1 a9 q1,bx b4 183 z183,bV (bp bG) 2 a q,dz bn.data q]from ay) ?_
 rintro⟨⟨i,a2,c2⟩,hi⟩ ih
 dsimp only at hi ih ⊢
 have Fj:=S5 (q1.map (·.1)) i
 rw[aA]at Fj
 refine xB ?_ ?_<;>intro h1
 ·have hi:i<q1.length:=by simp at h1;omega
  have Mt:=Oy (q1.map (·.1)) i (by simpa using hi)
  rw[ft]at Mt
  generalize tQ ((q1.map (·.1)).take i)=Z at*
  refine xS ?_
  refine cH U U U U U hi U λbl o=>xS ?_
  refine CP q1 i hi ?_
  obtain⟨x,hxq⟩:∃x,x=q1[i]:=⟨_,U⟩
  have IG:q1.set i x=q1:=by rw[hxq,List.set_getElem_self]
  simp only[<-hxq]at Mt ⊢
  obtain⟨⟨no,data,uX,fk⟩,xb,⟨xa,xc⟩,⟨ya,yc⟩⟩:=x
  dsimp only[SI.cs]at Mt ⊢
  clear hxq
  refine xB ?_ ?_<;>intro h2
  ·have h2:uX=true:=h2
   rw[if_pos h2]at Mt
   refine xZ ?_
   intro b53
   refine eD (no) U U U U (by first|rfl|assumption) rfl (by rfl) (by rfl) (by rfl) (by rfl) (by rfl) (by omega) λa54 c54=>xS ?_
   refine yh q1 i hi (⟨no,data,uX,fk⟩,xb,(xa,xc),(ya,yc)) ?_
   rw[IG]
   refine X.less (ih ⟨(i+1,a54,c54),by dsimp only;omega⟩ (by dsimp only;omega)) ?_ ?_
   ·dsimp only;rw[Mt]
    exact(s8_ U U U U U U U (eN U (by simp[aX])))
   ·dsimp only;rw[Mt];exact ay
  ·have h2:¬uX=true:=by simpa using h2
   rw[if_neg h2]at Mt
   refine xS ?_
   refine yh q1 i hi (⟨no,data,uX,fk⟩,xb,(xa,xc),(ya,yc)) ?_
   rw[IG]
   refine X.less (ih ⟨(i+1,a2,c2),by dsimp only;omega⟩ (by dsimp only;omega)) ?_ ?_
   ·dsimp only;rw[Mt]
    exact(s8_ U U U U U U U (eN U (by simp[aX])))
   ·dsimp only;rw[Mt];exact ay
 have fw:i=q1.length:=by simp at h1;omega
 subst fw
 rw[aD (by simp)]at Fj ⊢
 clear ih h1 hi
 generalize tQ (q1.map (·.1))=ts at*
 refine dE a2 (λu:UInt32=>[.int .u32 u.toNat]) ts U U (λ_=>rfl) λ_=>xS ?_
 refine ei hG (Iz cap a _ c q U (by omega) h0 (by omega) a2 _ c2 ts U (by omega)) U U U iv ?_
 intro v B hD
 have Np:=@vL (q.map (·.1)) cap ts
 have hlo:=@AB (q.map (·.1)) cap ts
 have XM:=@s7 (q.map (·.1)) cap ts
 have hru:=@Ey (q.map (·.1)) cap ts
 cases hp:fI (q.map (·.1)) cap ts with
 |error e=>
  rw[hp]at hD bu
  obtain⟨rfl,rfl⟩:=hD
  subst bu
  have h0:=XM hp
  refine xD ?_
  refine xA ?_
  intro FE
  refine aM 64 true U (by simp[h0]) (xS ?_)
  exact bO hb (.gX U (by rfl) (.tmp U (.tmp U .nil))) ⟨U,U⟩
 |ok m=>
  rw[hp]at hD bu
  dsimp only at bu
  have Iy:=hlo hp
  have Ib:=Np hp
  obtain⟨IA,ZV,hr3⟩:=hru hp
  clear Np hlo XM hru hp
  obtain⟨ss,sa,sc,fa,fc,fx,iz,rfl,rfl⟩:=hD
  refine xD ?_
  refine xA ?_
  intro FE
  refine dE sa db ss U U (λ_=>rfl) λ_=>?_
  have hsl2:ss.length<=12*q.length:=by
   have:=Iy.steps
   rw[<-iz,aA,aA]at this
   exact this
  have hpa:pP (q.map (·.1)) (ss.map (·.1))=some (pA m.now):=by
   unfold pP
   rw[if_pos qO.1,iz,IA];rfl
  refine ei hG (GW GG a _ c q U sa _ sc ss U h0 (by omega) (by omega) (λl hl=>by rw[hpa]at hl;cases hl;rw[nx];omega)) U U U iv ?_
  rw[hpa]
  rintro v B ⟨a7,c7,q7,hq7,rfl,rfl⟩
  have hu7:aZ (q7.map (·.1))<=4194304:=by rw[hq7,nx];omega
  have hq7l:q7.length<=1000000000000:=by
   have h1:=congrArg dq hq7
   rw[aA,(w4 m.now).length_eq]at h1
   have:=Iy.now
   rw[aA]at this
   omega
  have hq7n:∀x∈q7,x.1.name.length<=1000:=by
   intro x hx
   have h1:x.1∈pA m.now:=by rw[<-hq7];exact bj.2 ⟨x,hx,U⟩
   exact jT (Iy.names _ ((w4 m.now).mem_iff.1 h1))
  rw[<-hq7]at bu
  clear hpa hq7 IA ZV
  refine xD ?_
  refine dE a7 bG q7 U U (λ_=>rfl) λ_=>xS ?_
  refine X.loop (ι:={z:Nat×List SI // z.1<=q7.length/\z.2.map (·.1)=qG (q1.map (·.1)) ((q7.map (·.1)).take z.1)/\z.2.map (λx=>x.2.1)=q1.map (λx=>x.2.1)/\z.2.length=q1.length}) (λz=>([(4,au b4),(9,.slice a9 q1.length c9),(13,au FE),(78,.slice a7 q7.length c7),(79,aX q7.length),(80,aX z.1.1)],[cV (z.1.2.map r9),zc z.1.2,bV (bp El) 1 a9 z.1.2,bx b4 183 z183,bx FE 183 [.slice sa ss.length sc,.slice fa m.gu fc,.int .u64 m.top.toNat,.int .i64 m.bz,.int .i64 m.cD,.int .i64 m.ky],bV (bp bG) 2 a7 q7,dz bn.data q7,bV (bp db) 5 sa ss,dz eH.data ss])) (λz=>q7.length - z.1.1) ⟨(0,q1),al _,U,U,U⟩ (Sub.of U) ay ?_
  rintro⟨⟨i,Q⟩,hi,hQ,hQp,hQl⟩ ih
  dsimp only at hi hQ hQp hQl ih ⊢
  refine xB ?_ ?_<;>intro h1
  ·have hi:i<q7.length:=by simp at h1;omega
   have iq:=aB hi
   have vy:=Ox (q1.map (·.1)) (q7.map (·.1)) i (by simpa using hi)
   rw[<-hQ,ft,<-S4]at vy
   have hxn:=hq7n _ iq
   refine bd4 Q q7 q7[i] iq (xS ?_)
   refine cH U U U U U hi U λbl o=>?_
   generalize q7[i]=x at*
   refine xS ?_
   refine dF U U U U  ?_
   refine xA ?_
   intro b17
   refine xJ (mF x.1.name (by omega)) ?_
   refine eT [4,9,13,17,18,19,78,79,80,90] [1,3,2] (ι:={j:Nat // j<=Q.length}) (λj q_=>(91,aX q1.length)::(92,aX j.1)::q_) (λj q_=>cV ((AJ (qH x) Q j.1).map r9)::q_) (λj=>Q.length - j.1) ⟨0,al _⟩ ?_
   rintro⟨j,hj⟩ pG
   dsimp only at hj pG ⊢
   refine xB ?_ ?_<;>intro h2
   ·have hj:j<Q.length:=by simp at h2;omega
    obtain⟨y,Ls⟩:∃y,y=Q[j]:=⟨_,U⟩
    obtain⟨Z,hZ⟩:∃Z,Z=AJ (qH x) Q j:=⟨_,U⟩
    have hjZ:j<Z.length:=by rw[hZ,Lr];exact hj
    have hbg:Z[j]=y:=by subst hZ;rw[Ls];exact X3 _ Q j hj
    have XW:Z.set j (qH x y)=AJ (qH x) Q (j+1):=by rw[hZ,Ls];exact X2 _ Q j hj
    rw[<-hZ]
    refine xS ?_
    refine cH U U U U U hj hQl λVM o2=>?_
    rw[<-Ls]
    refine xS ?_
    refine CP Z j hjZ ?_
    simp only[hbg]
    clear Ls hZ
    obtain⟨⟨no,data,uX,fk⟩,xb,⟨xa,xc⟩,⟨ya,yc⟩⟩:=y
    dsimp only[SI.cs,qH]at XW ⊢
    refine xT 98 ?_ ?_<;>intro h3
    ·have h3:(bJ x.1.name).1=1:=by simp at h3;omega
     refine xB ?_ ?_<;>intro h4
     ·have h4:no=(bJ x.1.name).2:=by
       apply dM.1
       simp at h4;omega
      rw[if_pos ⟨h3,h4⟩]at XW
      refine xS ?_
      refine yh Z j hjZ (⟨no,x.1.data,uX,fk⟩,xb,x.2,(ya,yc)) ?_
      rw[XW]
      exact X.W (pG ⟨j+1,by omega⟩ (by dsimp only;omega))
     ·have h4:¬no=(bJ x.1.name).2:=by
       intro h;subst h;simp at h4
      rw[if_neg (λh=>h4 h.2)]at XW
      refine xS ?_
      refine yh Z j hjZ (⟨no,data,uX,fk⟩,xb,(xa,xc),(ya,yc)) ?_
      rw[XW]
      exact X.W (pG ⟨j+1,by omega⟩ (by dsimp only;omega))
    ·have h3:¬(bJ x.1.name).1=1:=by
      intro h;simp[h]at h3
     rw[if_neg (λh=>h3 h.1)]at XW
     refine xS ?_
     refine yh Z j hjZ (⟨no,data,uX,fk⟩,xb,(xa,xc),(ya,yc)) ?_
     rw[XW]
     exact X.W (pG ⟨j+1,by omega⟩ (by dsimp only;omega))
   ·have Mp:j=Q.length:=by simp at h2;omega
    subst Mp
    rw[X4]
    refine MB a9 Q (Q.map (qH x)) (G8 _ Q) (xS ?_)
    exact X.W (ih ⟨(i+1,Q.map (qH x)),by dsimp only;omega,vy.symm,(G8 x Q).trans hQp,by rw[aA];exact hQl⟩ (by dsimp only;omega))
  have fw:i=q7.length:=by simp at h1;omega
  subst fw
  rw[aD (by simp)]at hQ
  have NN:=EB (q7.map (·.1)) (q1.map (·.1)) hsn1
  rw[<-hQ]at NN bu
  have htf:=NN.2
  have YS:=qF (Q.map (·.1))
  have RT:∀x∈Q,x.1.data.length<=1000000000/\x.1.fk.length<=1000000000:=by
   intro x hx
   have:=Et (bj.2 ⟨x,hx,U⟩:x.1∈Q.map (·.1))
   omega
  have zJ:=vN (Q.map (·.1))
  refine av0 Q λrn=>?_
  clear ih h1 hi hQ hQp NN
  rw[<-hQl]
  refine xS ?_
  refine ei hG (Lg a9 _ c9 Q U (by omega) RT (by omega)) U U U iv ?_
  rintro v B ⟨K,KM,rfl,rfl⟩
  refine xD ?_
  refine xQ (Eo K (gQ (Q.map (·.1))) a9 _ c9 Q U (by omega) (λx hx=>⟨rn x hx,RT x hx⟩) (by omega)) ?_
  have hds:=pQ (Q.map (·.1)) (gQ (Q.map (·.1))) 1000000000 (by omega)
  have j6:mn (Q.map (·.1)) (gQ (Q.map (·.1)))=BE (Q.map (·.1)):=U
  rw[j6]at hds ⊢
  refine xO (XJ GG K (BE (Q.map (·.1))) hds) ?_
  subst bu
  exact bO hb (.gX U (by rfl) (.tmp U (.tmp U .nil))) ⟨ss,sa,sc,fa,fc,K,iz,U,U⟩
end
section
variable{α:Type}{i j:Nat}(G:bZ)(fc:Nat)(cap:List Value)(A:List az)
theorem Lt{l:List bn}{cap:Int}{z:Mk×dR}(h:pj l cap=.ok z):∃ts,fI l cap ts=.ok z.1:=by
 grind [pj]
theorem EC{l:List bn}{cap:Int}{e:Int}(h:pj l cap=.error e):e≠0:=by
 grind [pj,s7]
theorem G9(d:dR):d.top<2^64:=by
 unfold dR.top;induction d with
 |nil=>decide
 |cons x r ih=>
  rw[aK,List.foldr_cons];have:=(lL x.2).toNat_lt;omega
def xl(s:be):be×Except Int Z8:=
 if s.down=true then(s,.error 75)else
 match pj s.all s.cap with
 |.error e=>(s,.error e)
 |.ok z=>if(s.ml z.1.steps).2.2≠0 then((s.ml z.1.steps).1,.error (s.ml z.1.steps).2.2)else((s.ml z.1.steps).1,.ok ⟨z.2,fE z.2.top,z.1.bz,z.1.cD⟩)
theorem S7(D:Nat)(s:be)(hl:s.files.length<=50000000000):
 TR ab GG 67 #[au D] [bM D s] (cb (XL D (xl s))):=by
 refine cg U λb β hb hG=>?_
 generalize bu:xl s=res
 unfold xl at bu
 refine tE D λdp=>?_
 have h2:=dp.le
 have h3:=dp.cap
 have Kc:=dp.vX
 have hu:=qD dp
 have ub:=oG s
 refine xA ?_
 intro b3
 refine xH (DZ GG D s) ?_
 refine xB ?_ ?_<;>intro hd
 ·exact Zn
 have hd:s.down=false:=hd
 rw[if_neg (by simp[hd])]at bu
 refine xS ?_
 refine bw (lW GG D s av) ?_
 rintro v B ⟨a,c,rfl,rfl⟩
 dsimp only[ae,ai,ah]
 refine pE a c (l:=s.all) λq hq Z7 Ms=>?_
 refine xH (Cs GG D s) ?_
 rw[<-hq]at bu hu ub ⊢
 rw[aA]at ub ⊢
 refine xS ?_
 refine bw (S6 s.cap a _ c q U av Ms av) ?_
 intro v B hD
 have hlo:=@Lt (q.map (·.1)) s.cap
 have XM:=@EC (q.map (·.1)) s.cap
 cases hp:pj (q.map (·.1)) s.cap with
 |error e=>
  rw[hp]at hD bu;obtain⟨rfl,rfl⟩:=hD;subst bu;have h0:=XM hp;refine xD ?_;refine xA ?_;intro b5;refine aM 23 true U Rk (xS ?_);exact Yi
 |ok z=>
  rw[hp]at hD bu;obtain⟨ts,hdp⟩:=hlo hp;have Iy:=AB hdp;have Ib:=vL hdp;have NN:=G9 z.2;obtain⟨ss,sa,sc,fa,fc,K,iz,rfl,rfl⟩:=hD;dsimp only at bu;refine xD ?_;refine xA ?_;intro b5;have sI:ss.length<=1000000000000:=by
   have:=Iy.steps;rw[<-iz,aA,aA]at this;omega
  refine bw (IB GG D s sa _ sc ss U sI (λx hx=>by
   have:=Ib.st x.1 (by rw[<-iz];exact bj.2 ⟨x,hx,U⟩);omega)) ?_
  rintro v B ⟨rfl,rfl⟩;rw[iz];generalize s.ml z.1.steps=y at*;obtain⟨s1,n1,e1⟩:=y;dsimp only at bu ⊢;refine xD ?_;refine xB ?_ ?_<;>intro he
  ·have he:e1≠0:=by simpa using he
   exact aK6
  have he:¬e1≠0:=by simpa using he
  rw[if_neg he]at bu;subst bu;have Xz:(z.2.top:Int)=((fE z.2.top).toNat:Nat):=by rw[UInt64.toNat_ofNat'];omega
  refine xS ?_;refine eR 4 [1] ?_;refine xL [0,1,2,3] ?_;refine xS ?_;exact bO hb (.tmp U (.gX U iA (.tmp U .nil))) ⟨K,fa,z.1.gu,fc,by rw[<-Xz];rfl,U⟩
structure nD where
 iD:bn
 no:UInt32
 qP:List Rec
 iP:Bool
deriving DecidableEq
abbrev nN:=nD×(Option Addr×Nat)×(Option Addr×Nat)
@[reducible] def nN.cs(x:nN):List Value:=[ao x.1.iD.name,.slice x.2.1.1 x.1.iD.data.length x.2.1.2,.int .u32 x.1.no.toNat,.slice x.2.2.1 x.1.qP.length x.2.2.2,.bool x.1.iP]
theorem X6[CF ab fc](p:nN->Bool)(a:Option Addr)(n c:Nat)(xs:List nN)(hn:xs.length=n)(hs:n<=1099511627776)(hc:∀x∈xs,TR ab G fc (([]:List Value)++[gn (nN.cs x).toArray]++cap).toArray [cV A] (cb λv B=>v=.bool (p x)/\B=[cV A])):
 TR ab G 339 #[.slice a n c,.func (.func fc) #[] cap.toArray] [bV (bp nN.cs) 5 a xs,cV A] (cb λv B=>v=aX (cy p 0 xs)/\B=[cV A]):=by
 refine aW U λb β hb hG=>xS ?_
 refine eT [0,1] [] (ι:={i:Nat // i<=n/\cy p 0 xs=cy p i (xs.drop i)}) (λi q_=>(7,aX n)::(8,aX i.1)::q_) (λi q_=>q_) (λi=>n - i.1) ⟨0,al _,U⟩ ?_
 rintro⟨i,hi,hE⟩ ih
 dsimp only
 refine xB ?_ ?_<;>intro h
 ·have hi:i<xs.length:=by grind
  refine xS ?_;refine cH U U U U U hi hn λbl o=>?_;rw[jt _ xs i hi]at hE;have Db:=hc xs[i] (aB hi);generalize xs[i]=x at*;refine xS ?_;refine dF U U U U (xS ?_);refine gW (fst:=[]) (us:=[gn (nN.cs x).toArray]) (cap:=cap) hG Db U U U U aN.es ?_;exact bw9
 ·exact bg3
theorem u0{α:Type}(p:α->Bool):∀(l:List α) (k:Nat),(cy p k l= -1/\l.filter (λx=> !p x)=l)\/∃j,∃(_:j<l.length),cy p k l=((k+j:Nat):Int)/\(l.take (j+1)).filter (λx=> !p x)=l.take j
 |[],k=>.inl ⟨U,U⟩
 |x::r,k=>by
  unfold cy;cases hp:p x
  ·simp only[bY,if_false];rcases u0 p r (k+1)with⟨h1,h2⟩|⟨j,hj,h1,h2⟩;all_goals grind
  ·refine .inr ⟨0,by simp,by simp,?_⟩
   grind
structure F4{α:Type}(p:α->Bool)(xs:List α)(i j:Nat)(m:List α):Prop where
 ij:i<j
 jn:j<=xs.length
 len:m.length=xs.length
 hd:m.take i=(xs.take j).filter λx=> !p x
 tl:m.drop j=xs.drop j
theorem F4.at{p:α->Bool}{xs:List α}{m:List α}(h:F4 p xs i j m)(hj:j<xs.length):m[j]'(by rw[h.len];exact hj)=xs[j]:=by
 have h1:=h.tl
 have h2:m[j]?=xs[j]?:=by
  have:=congrArg (λl=>l[0]?) h1;simpa using this
 grind
theorem F4.drop{p:α->Bool}{xs:List α}{m:List α}(h:F4 p xs i j m)(hj:j<xs.length)(hp:p xs[j]=true):F4 p xs i (j+1) m:=by
 refine⟨by have:=h.ij;omega,hj,h.len,?_,?_⟩
 ·rw[h.hd,aY,aV hj,List.filter_append];simp[hp]
 ·have:=congrArg (List.drop 1) h.tl;simp_all
theorem F4.iL{p:α->Bool}{xs:List α}{m:List α}(h:F4 p xs i j m)(hj:j<xs.length)(hp:p xs[j]=false):F4 p xs (i+1) (j+1) (m.set i xs[j]):=by
 have xG:=h.ij;have hlen:=h.len;refine⟨by omega,hj,by grind,?_,?_⟩
 ·have h1:(m.set i xs[j]).take (i+1)=m.take i++[xs[j]]:=by
   grind [aY,List.take_set_of_le]
  rw[h1,h.hd,aY,aV hj,List.filter_append];simp[hp]
 ·rw[List.drop_set_of_lt av];have:=congrArg (List.drop 1) h.tl;simp_all
theorem X7[CF ab fc][hA:rP [cV A]](p:nN->Bool)(a:Option Addr)(n c:Nat)(xs:List nN)(hn:xs.length=n)(hs:n<=1099511627776)(hc:∀x∈xs,TR ab G fc (([]:List Value)++[gn (nN.cs x).toArray]++cap).toArray [cV A] (cb λv B=>v=.bool (p x)/\B=[cV A])):
 TR ab G 224 #[.slice a n c,.func (.func fc) #[] cap.toArray] [own 349 5 a n c (xs.flatMap nN.cs),cV A]
  (cb λv B=>v=.slice a (xs.filter λx=> !p x).length c/\B=[own 349 5 a (xs.filter λx=> !p x).length c ((xs.filter λx=> !p x).flatMap nN.cs),cV A]):=by
 subst hn
 refine aW U λb β hb hG=>?_
 have sD:=u0 p xs 0
 refine xS ?_
 refine bw (mf (e:=349) (c:=c) (X6 G fc cap A p a _ c xs U hs hc) bE U (λ_=>rfl)) ?_
 rintro v B ⟨_,⟨rfl,rfl⟩,rfl⟩
 dsimp only[ae,ai,ah]
 generalize cy p 0 xs=J at*
 refine xB ?_ ?_<;>intro h
 ·exact bE4
 ·have h:¬J= -1:=by grind
  obtain⟨j0,hj0,rfl,hf0⟩:=sD.resolve_left λh2=>h h2.1;rw[aQ]at*;refine gV a av λg hg=>?_;subst hg;refine xS ?_;refine eT [0,1] [0] (ι:={z:Nat×Nat×List nN // F4 p xs z.1 z.2.1 z.2.2}) (λz q_=>(5,.int .i64 (z.1.1:Int))::(6,.int .i64 (z.1.2.1:Int))::q_) (λz q_=>own 349 5 (some ⟨g,0,none⟩) xs.length c (z.1.2.2.flatMap nN.cs)::q_) (λz=>xs.length - z.1.2.1) ⟨(j0,j0+1,xs),by dsimp only;omega,hj0,U,hf0.symm,U⟩ ?_;rintro⟨⟨i,j,m⟩,hI⟩ ih;dsimp only at hI ih ⊢;refine xB ?_ ?_<;>intro h2
  ·have hj:j<xs.length:=by grind
   have xG:=hI.ij;have hjm:j<m.length:=by rw[hI.len];exact hj
   have Jd:=hI.at hj;have Z':=hc xs[j] (aB hj);have hdr:=hI.drop hj;have PY:=hI.iL hj;rw[<-Jd]at Z' hdr PY;refine xS ?_;refine du (j:=j) U U U U av av (xS ?_);refine gN (bo:=nN.cs) (l:=m) j U U U U (λ_=>rfl) (aQ _) hjm ?_;generalize m[j]=x at*;refine xA ?_;intro b7;refine gW (fst:=[]) (us:=[gn (nN.cs x).toArray]) (cap:=cap) hG Z' U U U U aN.es ?_;rintro v B ⟨rfl,rfl⟩;refine xD ?_;refine xB ?_ ?_<;>intro h3
   ·have h3:p x=false:=by grind
    refine xS ?_;refine du (j:=i) U U U U av av (xS ?_);refine nT (bo:=nN.cs) (l:=m) i x U U U U (λ_=>rfl) (aQ _) av U U (xS ?_);exact Zl
   exact a'9
  ·have Mp:j=xs.length:=by have:=hI.jn;grind
   subst Mp;have xG:=hI.ij;have hlen:=hI.len;have hhd:=hI.hd;rw[bh]at hhd;have hil:(xs.filter λx=> !p x).length=i:=bE;rw[hil,<-hhd];refine ni (some ⟨g,0,none⟩) λ_ oM=>xS ?_;refine CJ (l:=i) (h:=xs.length) U U U (Bd.at U U) Bd.no av av ?_;refine CG (a:=some ⟨g,0,none⟩) (e:=349) (sz:=5) (n:=xs.length) (c:=c) i av ?_;rw[yL (sz:=5) (λ_=>rfl)];exact az2
theorem X8[CF ab fc](p:Rec->Bool)(a:Option Addr)(n c:Nat)(xs:List Rec)(hn:xs.length=n)(hs:n<=1099511627776)(hc:∀x∈xs,TR ab G fc (([]:List Value)++[gn (Rec.cs x).toArray]++cap).toArray [cV A] (cb λv B=>v=.bool (p x)/\B=[cV A])):
 TR ab G 416 #[.slice a n c,.func (.func fc) #[] cap.toArray] [bV (bp Rec.cs) 4 a xs,cV A] (cb λv B=>v=aX (cy p 0 xs)/\B=[cV A]):=by
 refine aW U λb β hb hG=>xS ?_
 refine eT [0,1] [] (ι:={i:Nat // i<=n/\cy p 0 xs=cy p i (xs.drop i)}) (λi q_=>(7,aX n)::(8,aX i.1)::q_) (λi q_=>q_) (λi=>n - i.1) ⟨0,al _,U⟩ ?_
 rintro⟨i,hi,hE⟩ ih
 dsimp only
 refine xB ?_ ?_<;>intro h
 ·have hi:i<xs.length:=by grind
  refine xS ?_;refine cH U U U U U hi hn λbl o=>?_;rw[jt _ xs i hi]at hE;have Db:=hc xs[i] (aB hi);generalize xs[i]=x at*;refine xS ?_;refine dF U U U U (xS ?_);refine gW (fst:=[]) (us:=[gn (Rec.cs x).toArray]) (cap:=cap) hG Db U U U U aN.es ?_;exact bw9
 ·exact bg3
end
end Go.Proofs
