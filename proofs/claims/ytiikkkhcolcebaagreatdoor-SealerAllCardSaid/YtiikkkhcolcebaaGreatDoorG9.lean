/- A part. -/
import Derived.Test.YtiikkkhcolcebaaGreatDoorG8
set_option linter.all false
set_option maxHeartbeats 4000000
set_option maxRecDepth 100000
namespace Go.Proofs.YtiikkkhcolcebaaGreatDoor
noncomputable section
section
open Go.RowKit
inductive Kd where
 |int (k:eX)|bool|str|sl|ptr|mp|fn|GO|eO|jI|nl|gr
deriving DecidableEq,Repr,Inhabited
inductive L where
 |i (n:Int)|b (t:Bool)|s (x:fu)|r (rows:List (List PV))|c (cells:List PV)
deriving Inhabited
def L.br:L->Int| .i n=>n|_=>0
def L.ez:L->Bool| .b t=>t|_=>false
def L.fU:L->fu| .s x=>x|_=>ByteArray.empty
def L.bC:L->List (List PV)| .r x=>x|_=>[]
def L.i_:L->List PV| .c x=>x|_=>[]
def L.fS:L->Int×Int| .c [.sc (.int _ m),.sc (.int _ n)]=>(m,n)|_=>(0,0)
inductive At where
 |v (n:Nat)|i (n:Int)|b (t:Bool)|s (x:fu)|r0
deriving Inhabited
def At.ev(ρ:List L):At->L
 |.v n=>(ρ[n]?).getD (.b false)
 |.i n=>.i n
 |.b t=>.b t
 |.s x=>.s x
 |.r0=>.r []
def Kd.pv(k:Kd)(l:L):PV:=match k with
 |.int k=>.sc (.int k l.br)
 |.bool=>.sc (.bool l.ez)
 |.str=>.sc (.string l.fU)
 |.sl=>.sl l.bC
 |.ptr=>.sc (.pointer none)
 |.mp=>.sc (.map none)
 |.fn=>.sc .nilFunc
 |.GO=>.sc .nilIface
 |.eO=>.sc (.float .f64 (fK l.br))
 |.jI=>.sc (.complex .f64 (fK l.fS.1) (fK l.fS.2))
 |.nl=>.nl
 |.gr=>.sl l.bC
def Kd.of(k:Kd)(q:PV):Option L:=match k,q with
 |.int k,.sc (.int a n)=>if k=a then some (.i n)else none
 |.bool,.sc (.bool t)=>some (.b t)
 |.str,.sc (.string x)=>some (.s x)
 |.sl,.sl rows=>some (.r rows)
 |.nl,.nl=>some (.r [])
 |.gr,.sl rows=>some (.r rows)
 |.gr,.nl=>some (.r [])
 |_,_=>none
def Kd.w:Kd->Kd
 |.sl=>.gr
 |k=>k
theorem Kd.Ab{k:Kd}{q l}(h:k.of q=some l)(a:k≠ .gr):k.pv l=q:=by
 unfold Kd.of at h;split at h
 .split at h
  .rename_i a;subst a;cases h;rfl
  .cases h
 all_goals first| (cases h;rfl)|exact absurd rfl a|cases h
theorem Kd.auz{k:Kd}{q l}(h:k.w.of q=some l)(d:k≠ .gr)(a:k≠ .nl):k.pv l=q.wk:=by
 cases k<;>cases q<;>simp only[Kd.w,Kd.of]at h<;>first
  |(cases h;rfl)
  |exact absurd rfl d
  |exact absurd rfl a
  |(rename_i v;cases v<;>simp only[]at h<;>first| (cases h;rfl)|cases h| (split at h; (rename_i m;subst m;cases h;rfl);cases h))
  |cases h
theorem Kd.aqn{k:Kd}{q l}(h:k.of q=some l)(d:k≠ .gr)(a:k≠ .nl):q.wk=q:=by
 cases q with
 |nl=>cases k<;>simp[Kd.of]at h<;>first|exact absurd rfl d|exact absurd rfl a
 |_=>rfl
inductive SC where
 |p (k:Kd) (x:At)
 |nil
 |own (n:Nat)
 |sub (n:Nat) (lo len:At)
 |ptr (n off:Nat)
 |ia (n off cZ m:Nat) (i:At)
 |dH (n:Nat) (i:At) (j:Nat)
 |ref (x:At) (j:Nat)
 |fn (f:FuncId) (ee:List Nat)
 |mp (n:Nat)
 |dead
deriving Inhabited
def SC.a_(ρ:List L):SC->C
 |.p k x=>.p (k.pv (x.ev ρ))
 |.nil=>.nil
 |.own n=>.own n
 |.sub n lo len=>.sub n (lo.ev ρ).br.toNat (len.ev ρ).br.toNat
 |.ptr n off=>.ptr n off
 |.ia n off _ m i=>.ptr n (off+(i.ev ρ).br.toNat*m)
 |.dH n i j=>.dH n (i.ev ρ).br.toNat j
 |.ref x j=>.ref ((x.ev ρ).i_.drop j)
 |.fn f ee=>.fn f ee
 |.mp n=>.mp n
 |.dead=>.dead
inductive bK where
 |c (c:SC)
 |agg (cs:List SC)
deriving Inhabited
inductive SV where
 |v (x:bK)
 |bL (xs:List bK)
deriving Inhabited
inductive SB where
 |box (cs:List SC)
 |row (e:cd) (x:At)
 |map (x:At)
deriving Inhabited
def bK.a_(ρ:List L):bK->V1
 |.c y=>.c (y.a_ ρ)
 |.agg cs=>.agg (cs.map (SC.a_ ρ))
def SV.a_(ρ:List L):SV->V
 |.v x=>.v (x.a_ ρ)
 |.bL xs=>.bL (xs.map (bK.a_ ρ))
def SB.a_(ρ:List L):SB->eQ
 |.box cs=>.box (cs.map (SC.a_ ρ))
 |.row e x=>.row e (x.ev ρ).bC
 |.map x=>.map (x.ev ρ).bC
abbrev cU:=List (Nat×SB)
def cU.a_(ρ:List L)(h:cU):Hp:=h.map λx=>(x.1,x.2.a_ ρ)
structure gL where
 ch:cU
 bu:List Nat
def gL.a_(ρ:List L)(e:gL):gO:=⟨e.ch.a_ ρ,e.bu⟩
structure bq where
 tmps:List SV
 heap:cU
 bu:List Nat
 next:Nat
 nv:Nat
deriving Inhabited
def bq.a_(ρ:List L)(S:bq):bx:=⟨S.tmps.map (SV.a_ ρ),S.heap.a_ ρ,S.bu,S.next⟩
theorem cU.qs(ρ)(h:cU)(n):List.lookup n (h.a_ ρ)=(List.lookup n h).map (SB.a_ ρ):=by
 induction h with
 |nil=>rfl
 |cons x h ih=>
  obtain⟨k,b⟩:=x;simp only[cU.a_,dk,fD]at ih⊢;split
  .rfl
  .exact ih
def SC.names:SC->List Nat
 |.own n=>[n]| .sub n _ _=>[n]| .ptr n _=>[n]| .ia n _ _ _ _=>[n]| .dH n _ _=>[n]| .mp n=>[n]| .fn _ ee=>ee|_=>[]
def bK.names:bK->List Nat
 |.c x=>x.names
 |.agg xs=>xs.flatMap SC.names
def SV.names:SV->List Nat
 |.v x=>x.names
 |.bL xs=>xs.flatMap bK.names
def SB.names:SB->List Nat
 |.box cs=>cs.flatMap SC.names
 |_=>[]
theorem SC.nO(ρ)(c:SC):(c.a_ ρ).names=c.names:=by cases c<;>rfl
theorem SC.UG(ρ)(cs:List SC):(cs.map (SC.a_ ρ)).flatMap C.names=cs.flatMap SC.names:=by
 induction cs with
 |nil=>rfl
 |cons c cs ih=>simp only[dk,List.flatMap_cons,SC.nO,ih]
theorem bK.nO(ρ)(x:bK):(x.a_ ρ).names=x.names:=by
 cases x with
 |c c=>exact SC.nO ρ c
 |agg cs=>exact SC.UG ρ cs
theorem SV.nO(ρ)(x:SV):(x.a_ ρ).names=x.names:=by
 cases x with
 |v x=>exact bK.nO ρ x
 |bL xs=>
  show(xs.map (bK.a_ ρ)).flatMap V1.names=xs.flatMap bK.names
  induction xs with
  |nil=>rfl
  |cons c cs ih=>simp only[dk,List.flatMap_cons,bK.nO,ih]
def SC.oc:SC->Bool
 |.dead=>true
 |_=>false
def SV.oc:SV->Bool
 |.v (.c c)=>c.oc
 |_=>false
def SV.live(bu:List Nat)(v:SV):Bool:= !v.oc&&v.names.all λn=> !bu.contains n
theorem SV.Xj(ρ)(g)(x:SV):(x.a_ ρ).live g=x.live g:=by
 unfold V.live SV.live;rw[SV.nO]
 cases x with
 |v x=>
  cases x with
  |c c=>cases c<;>rfl
  |agg=>rfl
 |bL=>rfl
def Je:b9->SC
 |.slice none 0 0=>.nil
 |.int k n=>.p (.int k) (.i n)
 |.bool t=>.p .bool (.b t)
 |.string x=>.p .str (.s x)
 |.pointer none=>.p .ptr .r0
 |.map none=>.p .mp .r0
 |.nilFunc=>.p .fn .r0
 |.nilIface=>.p .GO .r0
 |.float .f64 0=>.p .eO (.i 0)
 |.complex .f64 0 0=>.p .jI .r0
 |_=>.dead
def uS:b9->Bool
 |.slice none 0 0=>true
 |.int _ _=>true| .bool _=>true| .string _=>true| .pointer none=>true| .map none=>true| .nilFunc=>true| .nilIface=>true| .float .f64 0=>true| .complex .f64 0 0=>true
 |_=>false
theorem arz(ρ){v}(h:uS v=true):(Je v).a_ ρ=lG v:=by
 unfold uS at h;split at h<;>first|rfl|cases h
def FD:b9->Option bK
 |.agg us=>if us.toList.all uS then some (.agg (us.toList.map Je))else none
 |.func (.func f) first captured=>if first.size=0/\captured.size=0 then some (.c (.fn f []))else none
 |v=>if uS v then some (.c (Je v))else none
theorem ade{v}(h:uS v=true):v.oneCell'=true:=by
 unfold uS at h;split at h<;>first|rfl|cases h
theorem akJ(ρ){v x}(h:FD v=some x):x.a_ ρ=ofValue v:=by
 unfold FD at h;split at h
 .split at h
  .rename_i hall;cases h;simp only[cz]at hall;simp only[bK.a_,ofValue];rw[bA (by simp only[cz];exactλu a=>ade (hall u a))];simp only[gp];congr 1;apply gz;intro u a;exact arz ρ (hall u a)
  .cases h
 .split at h
  .rename_i c;cases h;simp only[ofValue,bA c];rfl
  .cases h
 .split at h
  .rename_i b;cases h;unfold uS at b;split at b<;>first|rfl|cases b
  .cases h
def bq.arg(S:bq):cF->Option SV
 |.tmp t=>match S.tmps[t]? with
  |some x=>if x.live S.bu then some x else none
  |none=>none
 |.const v=>match FD v with
  |some x=>if(SV.v x).live S.bu then some (.v x)else none
  |none=>none
 |.func f=>some (.v (.c (.fn f [])))
 |.global _=>none
theorem bq.cG(ρ){S:bq}{x v}(h:S.arg x=some v):(S.a_ ρ).arg x=some (v.a_ ρ):=by
 cases x with
 |tmp t=>
  simp only[bq.arg]at h;split at h
  .rename_i y a;split at h
   .rename_i d;cases h;simp only[bx.arg,bq.a_,cX,a,b_,SV.Xj,d,if_true]
   .cases h
  .cases h
 |const u=>
  simp only[bq.arg]at h;split at h
  .rename_i y a;split at h
   .rename_i d;cases h;have k:=akJ ρ a;have m:=SV.Xj ρ S.bu (.v y);simp only[SV.a_,k,d]at m;simp only[bx.arg,SV.a_,k];exact bA m
   .cases h
  .cases h
 |func f=>cases h;rfl
 |global=>cases h
def dV(op:BinOp)(k:eX)(a b:Int):Option L:=match op with
 |.add=>some (.i (k.wrap (a+b)))
 |.sub=>some (.i (k.wrap (a-b)))
 |.mul=>some (.i (k.wrap (a*b)))
 |.quo=>if b≠0 then some (.i (k.wrap (a.tdiv b)))else none
 |.rem=>if b≠0 then some (.i (a.tmod b))else none
 |.and=>some (.i (k.wrap (BitVec.ofInt k.bits a&&&BitVec.ofInt k.bits b).toNat))
 |.or=>some (.i (k.wrap (BitVec.ofInt k.bits a|||BitVec.ofInt k.bits b).toNat))
 |.xor=>some (.i (k.wrap (BitVec.ofInt k.bits a^^^BitVec.ofInt k.bits b).toNat))
 |.andNot=>some (.i (k.wrap (BitVec.ofInt k.bits a&&& ~~~ BitVec.ofInt k.bits b).toNat))
 |.shl=>if 0<=b then some (.i (k.wrap (a*2^ (min b.toNat k.bits))))else none
 |.shr=>if 0<=b then some (.i (a.fdiv (2^ (min b.toNat k.bits))))else none
 |.eql=>some (.b (decide (a=b)))
 |.neq=>some (.b (decide (a≠b)))
 |.lss=>some (.b (decide (a<b)))
 |.leq=>some (.b (decide (a<=b)))
 |.gtr=>some (.b (decide (b<a)))
 |.geq=>some (.b (decide (b<=a)))
def wb(op:BinOp)(a b:fu):Option L:=match op with
 |.add=>if((a.size+b.size:Nat):Int)<=9223372036854775807 then some (.s (a++b))else none
 |.eql=>some (.b (a.toList==b.toList))
 |.neq=>some (.b (!(a.toList==b.toList)))
 |.lss=>some (.b (Op.bytesLess a.toList b.toList))
 |.leq=>some (.b (Op.bytesLess a.toList b.toList||a.toList==b.toList))
 |.gtr=>some (.b (!(Op.bytesLess a.toList b.toList||a.toList==b.toList)))
 |.geq=>some (.b (!(Op.bytesLess a.toList b.toList)))
 |_=>none
def mY(op:BinOp)(a b:Bool):Option L:=match op with
 |.eql=>some (.b (a==b))
 |.neq=>some (.b (!(a==b)))
 |.and=>some (.b (a&&b))
 |_=>none
def mo:BinOp->Bool
 |.eql| .neq| .lss| .leq| .gtr| .geq=>true
 |_=>false
def LO:BinOp->Bool
 |.shl| .shr=>true
 |_=>false
def Sc(op:UnOp)(k:eX)(n:Int):Option L:=match op with
 |.neg=>some (.i (k.wrap (0-n)))
 |.xor=>some (.i (k.wrap (BitVec.ofInt k.bits (if k.signed then-1 else k.max) ^^^BitVec.ofInt k.bits n).toNat))
 |_=>none
inductive Nd where
 |bi (op:BinOp) (k:eX) (x y:At)
 |bs (op:BinOp) (x y:At)
 |bb (op:BinOp) (x y:At)
 |not (x:At)
 |un (op:UnOp) (k:eX) (x:At)
 |conv (k:eX) (x:At)
 |len (x:At)
 |mm (x:At)
 |row (x i:At) (size:Nat)
 |jv (x lo len i:At) (size:Nat)
 |rc (x i:At) (j:Nat) (k:Kd)
 |cl (x:At) (j:Nat) (k:Kd)
 |du (i:At) (cZ:Nat)
 |gk (xs:List At) (i:At)
 |ch (x i:At) (k:Nat) (y:At)
 |part (x lo hi:At) (size:Nat)
 |cut (x lo hi:At) (size:Nat)
 |C6 (x l0 len lo hi:At) (size:Nat)
 |vw (x lo len:At)
 |tk (x len:At)
 |app (x y:At) (n b:Nat)
 |set (x i:At) (j:Nat) (ps:List (Kd×At))
 |lit (rows:List (List (Kd×At)))
 |jJ (n:At) (ps:List (Kd×At)) (b:Nat)
 |FM (x y:At) (size:Nat)
 |ox (x lo len y:At) (size:Nat)
 |sq (x len y:At) (size:Nat)
 |str (x:At)
 |zr (x i:At)
 |HO (x lo hi:At)
 |mn (x y:At)
 |mx (x y:At)
 |call (tag:Nat) (F:List L->Option (List L)) (args:List At) (n:Nat) (bs:List Nat)
deriving Inhabited
def oC(size:Nat)(rows:List (List PV)):Bool:=match rows with
 |[]=>true
 |r::_=>r.length==size
def db(ρ:List L)(ps:List (Kd×At)):List PV:=ps.map λx=>x.1.pv (x.2.ev ρ)
def Nd.ev(ρ:List L):Nd->Option (List L)
 |.bi op k x y=>(dV op k (x.ev ρ).br (y.ev ρ).br).map ([·])
 |.bs op x y=>(wb op (x.ev ρ).fU (y.ev ρ).fU).map ([·])
 |.bb op x y=>(mY op (x.ev ρ).ez (y.ev ρ).ez).map ([·])
 |.not x=>some [.b (!(x.ev ρ).ez)]
 |.un op k x=>(Sc op k (x.ev ρ).br).map ([·])
 |.conv k x=>some [.i (k.wrap (x.ev ρ).br)]
 |.len x=>some [.i (x.ev ρ).bC.length]
 |.mm x=>some [.i (x.ev ρ).fU.size]
 |.row x i size=>if 0<=(i.ev ρ).br then match(x.ev ρ).bC[(i.ev ρ).br.toNat]? with
  |some r=>if r.length=size then some [.c r]else none
  |none=>none
  else none
 |.jv x lo ln i size=>if 0<=(i.ev ρ).br then match(x.ev ρ).bC[(lo.ev ρ).br.toNat+(i.ev ρ).br.toNat]? with
  |some r=>if r.length=size/\(i.ev ρ).br.toNat< (ln.ev ρ).br.toNat then some [.i (((lo.ev ρ).br.toNat+(i.ev ρ).br.toNat:Nat):Int)]else none
  |none=>none
  else none
 |.rc x i j k=>match(x.ev ρ).bC[(i.ev ρ).br.toNat]? with
  |some r=>match r[j]? with
   |some q=>(k.of q).map ([·])
   |none=>none
  |none=>none
 |.cl x j k=>match(x.ev ρ).i_[j]? with
  |some q=>(k.of q).map ([·])
  |none=>none
 |.du i cZ=>if 0<=(i.ev ρ).br/\(i.ev ρ).br<cZ then some []else none
 |.gk xs i=>match xs[(i.ev ρ).br.toNat]? with
  |some x=>some [x.ev ρ]
  |none=>none
 |.ch x i k y=>some [if(i.ev ρ).br.toNat=k then y.ev ρ else x.ev ρ]
 |.part x lo a size=>if 0<=(lo.ev ρ).br/\(lo.ev ρ).br<=(a.ev ρ).br/\(a.ev ρ).br.toNat<=(x.ev ρ).bC.length/\ct size (x.ev ρ).bC=true then some [.r (((x.ev ρ).bC.take (a.ev ρ).br.toNat).drop (lo.ev ρ).br.toNat)]else none
 |.cut x lo a size=>if 0<=(lo.ev ρ).br/\(lo.ev ρ).br<=(a.ev ρ).br/\(a.ev ρ).br.toNat<=(x.ev ρ).bC.length/\oC size (x.ev ρ).bC=true then some [.i (((a.ev ρ).br.toNat- (lo.ev ρ).br.toNat:Nat):Int)]else none
 |.C6 x d ln lo a size=>if 0<=(lo.ev ρ).br/\(lo.ev ρ).br<=(a.ev ρ).br/\(a.ev ρ).br.toNat<=(ln.ev ρ).br.toNat/\oC size (x.ev ρ).bC=true then some [.i (((d.ev ρ).br.toNat+(lo.ev ρ).br.toNat:Nat):Int),.i (((a.ev ρ).br.toNat- (lo.ev ρ).br.toNat:Nat):Int)]else none
 |.vw x lo ln=>some [.r (((x.ev ρ).bC.drop (lo.ev ρ).br.toNat).take (ln.ev ρ).br.toNat)]
 |.tk x ln=>some [.r ((x.ev ρ).bC.take (ln.ev ρ).br.toNat)]
 |.app x y n b=>if(x.ev ρ).bC.length+(y.ev ρ).bC.length<=9223372036854775807/\((x.ev ρ).bC.length+(y.ev ρ).bC.length)*b<=140737488355328/\ct n (x.ev ρ).bC=true/\ct n (y.ev ρ).bC=true then some [.r ((x.ev ρ).bC++(y.ev ρ).bC)]else none
 |.set x i j ps=>match(x.ev ρ).bC[(i.ev ρ).br.toNat]? with
  |some r=>if j+ps.length<=r.length then some [.r ((x.ev ρ).bC.set (i.ev ρ).br.toNat (r.take j++db ρ ps++r.drop (j+ps.length)))]else none
  |none=>none
 |.lit rows=>some [.r (rows.map (db ρ))]
 |.jJ n ps b=>if 0<=(n.ev ρ).br/\(n.ev ρ).br<=9223372036854775807/\b*(n.ev ρ).br.toNat<=281474976710656 then some [.r (List.replicate (n.ev ρ).br.toNat (db ρ ps))]else none
 |.FM x y size=>if ct size (y.ev ρ).bC=true then some [.r ((y.ev ρ).bC.take (min (y.ev ρ).bC.length (x.ev ρ).bC.length)++(x.ev ρ).bC.drop (min (y.ev ρ).bC.length (x.ev ρ).bC.length)),.i ((min (y.ev ρ).bC.length (x.ev ρ).bC.length:Nat):Int)]else none
 |.ox x lo ln y size=>if ct size (y.ev ρ).bC=true/\(lo.ev ρ).br.toNat+(ln.ev ρ).br.toNat<=(x.ev ρ).bC.length then some [.r ((x.ev ρ).bC.take (lo.ev ρ).br.toNat++(y.ev ρ).bC.take (min (y.ev ρ).bC.length (ln.ev ρ).br.toNat)++(x.ev ρ).bC.drop ((lo.ev ρ).br.toNat+min (y.ev ρ).bC.length (ln.ev ρ).br.toNat)),.i ((min (y.ev ρ).bC.length (ln.ev ρ).br.toNat:Nat):Int)]else none
 |.sq x ln y size=>if ct size (y.ev ρ).bC=true/\(ln.ev ρ).br.toNat+(y.ev ρ).bC.length<=(x.ev ρ).bC.length then some [.r ((x.ev ρ).bC.take (ln.ev ρ).br.toNat++(y.ev ρ).bC++(x.ev ρ).bC.drop ((ln.ev ρ).br.toNat+(y.ev ρ).bC.length)),.i (((ln.ev ρ).br.toNat+(y.ev ρ).bC.length:Nat):Int)]else none
 |.str x=>(mU (x.ev ρ).bC).map λl=>[.s (strOfNums l)]
 |.zr x i=>if 0<=(i.ev ρ).br then match(x.ev ρ).fU[(i.ev ρ).br.toNat]? with
  |some b=>some [.i b.toNat]
  |none=>none
  else none
 |.HO x lo a=>if 0<=(lo.ev ρ).br/\(lo.ev ρ).br<=(a.ev ρ).br/\(a.ev ρ).br<=(x.ev ρ).fU.size then some [.s ((x.ev ρ).fU.extract (lo.ev ρ).br.toNat (a.ev ρ).br.toNat)]else none
 |.mn x y=>some [.i (if(y.ev ρ).br< (x.ev ρ).br then(y.ev ρ).br else(x.ev ρ).br)]
 |.mx x y=>some [.i (if(y.ev ρ).br> (x.ev ρ).br then(y.ev ρ).br else(x.ev ρ).br)]
 |.call _ F args n us=>match F (args.map (At.ev ρ))with
  |some l=>if l.length=n/\(us.all λi=>((l[i]?).getD (.b false)).bC.all (·.all PV.bare))=true then some l else none
  |none=>none
def Nd.n:Nd->Nat
 |.du _ _=>0
 |.C6 .. =>2
 |.FM .. =>2
 |.ox .. =>2
 |.sq .. =>2
 |.call _ _ _ n _=>n
 |_=>1
theorem Nd.L5{ρ}{a:Nd}{ls}(h:a.ev ρ=some ls):ls.length=a.n:=by
 cases a<;>simp only[Nd.ev,Nd.n]at h⊢<;>first
  |(cases h;rfl)
  |(simp only[bY]at h;obtain⟨_,_,rfl⟩:=h;rfl)
  |(split at h<;>first| (cases h;first|rfl|assumption|exact(And.left ‹_/\_›))|cases h| (split at h<;>first| (cases h;first|rfl|assumption|exact(And.left ‹_/\_›))|cases h| (split at h<;>first| (cases h;first|rfl|assumption|exact(And.left ‹_/\_›))|cases h)| (simp only[bY]at h;obtain⟨_,_,rfl⟩:=h;rfl)| (cases h;first|rfl|assumption|exact(And.left ‹_/\_›)))| (simp only[bY]at h;obtain⟨_,_,rfl⟩:=h;rfl))
def At.in(m:Nat):At->Bool
 |.v n=>decide (n<m)
 |_=>true
def zH(m:Nat)(ps:List (Kd×At)):Bool:=ps.all λx=>x.2.in m
def Nd.in(m:Nat):Nd->Bool
 |.bi _ _ x y| .bs _ x y| .bb _ x y| .row x y _| .rc x y _ _| .tk x y| .app x y _ _| .FM x y _| .zr x y| .mn x y| .mx x y=>x.in m&&y.in m
 |.not x| .un _ _ x| .conv _ x| .len x| .mm x| .cl x _ _| .du x _| .str x=>x.in m
 |.jv x a b c _| .ox x a b c _=>x.in m&&a.in m&&b.in m&&c.in m
 |.gk xs i=>xs.all (At.in m)&&i.in m
 |.ch x i _ y| .sq x i y _| .part x i y _| .cut x i y _| .vw x i y| .HO x i y=>x.in m&&i.in m&&y.in m
 |.C6 x a b c d _=>x.in m&&a.in m&&b.in m&&c.in m&&d.in m
 |.set x i _ ps=>x.in m&&i.in m&&zH m ps
 |.lit rows=>rows.all (zH m)
 |.jJ n ps _=>n.in m&&zH m ps
 |.call _ _ args _ _=>args.all (At.in m)
theorem At.fm{m ρ xs}{x:At}(h:x.in m=true)(a:m<=ρ.length):x.ev (ρ++xs)=x.ev ρ:=by
 cases x with
 |v n=>
  simp only[At.in,eD]at h;simp only[At.ev];rw[oY om]
 |_=>rfl
theorem Nj{m ρ xs ps}(h:zH m ps=true)(a:m<=ρ.length):db (ρ++xs) ps=db ρ ps:=by
 apply gz;intro y b;simp only[zH,cz]at h;rw[At.fm (h y b) a]
theorem Nd.fm{m ρ xs}{d:Nd}(h:d.in m=true)(a:m<=ρ.length):d.ev (ρ++xs)=d.ev ρ:=by
 cases d
 case gk ys i=>
  simp only[Nd.in,cu,cz]at h;simp only[Nd.ev,At.fm h.2 a]
  cases q:ys[(i.ev ρ).br.toNat]? with
  |none=>rfl
  |some x=>simp only[At.fm (h.1 x (eb q)) a]
 case lit rows=>
  simp only[Nd.in,cz]at h;simp only[Nd.ev];congr 3;apply gz;intro y k;exact Nj (h y k) a
 case call F args n bs=>
  simp only[Nd.in,cz]at h;simp only[Nd.ev];rw[gz (g:=At.ev ρ) (λy k=>At.fm (h y k) a)]
 case set x i j ps=>
  simp only[Nd.in,cu]at h;simp only[Nd.ev,At.fm h.1.1 a,At.fm h.1.2 a,Nj h.2 a]
 case jJ n ps b=>
  simp only[Nd.in,cu]at h;simp only[Nd.ev,At.fm h.1 a,Nj h.2 a]
 all_goals
  simp only[Nd.in,cu]at h
  first
   |(simp only[Nd.ev,At.fm h a];done)
   |(simp only[Nd.ev,At.fm h.1 a,At.fm h.2 a];done)
   |(simp only[Nd.ev,At.fm h.1.1 a,At.fm h.1.2 a,At.fm h.2 a];done)
   |(simp only[Nd.ev,At.fm h.1.1.1 a,At.fm h.1.1.2 a,At.fm h.1.2 a,At.fm h.2 a];done)
   |(simp only[Nd.ev,At.fm h.1.1.1.1 a,At.fm h.1.1.1.2 a,At.fm h.1.1.2 a,At.fm h.1.2 a,At.fm h.2 a];done)
def Sat(ρ:List L):Nat->List Nd->Prop
 |_,[]=>True
 |m,a::nds=>(∃ls,a.ev ρ=some ls/\∀i,i<a.n->ρ[m+i]?=ls[i]?)/\Sat ρ (m+a.n) nds
def gq:List Nd->Nat
 |[]=>0
 |nd::nds=>nd.n+gq nds
def qh(ρ:List L):List Nd->Option (List L)
 |[]=>some ρ
 |nd::nds=>match nd.ev ρ with
  |some ls=>qh (ρ++ls) nds
  |none=>none
def tm:Nat->List Nd->Bool
 |_,[]=>true
 |m,a::nds=>a.in m&&tm (m+a.n) nds
theorem Ed:∀{nds:List Nd}{ρ a:List L},qh ρ nds=some a->∃xs,a=ρ++xs/\xs.length=gq nds
 |[],ρ,a,h=>by cases h;exact⟨[],by simp,rfl⟩
 |nd::nds,ρ,a,h=>by
  simp only[qh]at h;split at h
  .rename_i ls b;obtain⟨xs,c,d⟩:=Ed h;exact⟨ls++xs,by rw[c,dI],by simp[d,Nd.L5 b,gq]⟩
  .cases h
theorem HU:∀{nds:List Nd}{ρ a ys:List L},tm ρ.length nds=true->qh ρ nds=some a->Sat (a++ys) ρ.length nds
 |[],_,_,_,_,_=>trivial
 |nd ::nds,ρ,a,ys,c,h=>by
  simp only[tm,cu]at c;simp only[qh]at h;split at h
  .rename_i ls b;have d:=Nd.L5 b;obtain⟨xs,e,g⟩:=Ed h;refine⟨⟨ls,?_,λi f=>?_⟩,?_⟩
   .rw[e,dI,dI,Nd.fm c.1 (de _)];exact b
   .rw[e,dI,dI,kF om,Nat.add_sub_cancel_left,oY om]
   .have:=HU (ys:=ys) (nds:=nds) (ρ:=ρ++ls) (by rw[cD,d];exact c.2) h;rw[cD,d]at this;exact this
  .cases h
theorem Sat.one{ρ m a nds}(h:Sat ρ m (a::nds)):∃ls,a.ev ρ=some ls/\∀i,i<a.n->At.ev ρ (.v (m+i))=(ls[i]?).getD (.b false):=by
 obtain⟨⟨ls,d,k⟩,_⟩:=h;exact⟨ls,d,λi q=>by simp only[At.ev,k i q]⟩
theorem Sat.app:∀{ρ}{m}{a b},Sat ρ m (a++b)->Sat ρ m a/\Sat ρ (m+gq a) b
 |_,_,[],b,h=>⟨trivial,by simpa[gq]using h⟩
 |ρ,m,u::a,b,h=>by
  obtain⟨d,k⟩:=h;obtain⟨q,t⟩:=Sat.app (a:=a) k;exact⟨⟨d,q⟩,by simpa[gq,Bb]using t⟩
structure Ty where
 size:Nat
 agg:Bool
 some:Bool
 info:Bool
 ob:Option (List Kd)
 fields:List (Option Nat)
 places:Option (List (Nat×Nat))
 elem:Option cd
 arr:Option (Nat×cd)
 app:Option (Nat×Nat)
 c8:Bool
 int:Option eX
 th:Bool
 sl:Option cd
 ptr:Option cd
 Fq:Bool
 NB:Option cd
 Ws:Nat
 eO:Bool
deriving DecidableEq,Repr,Inhabited
def sE:b9->Option Kd
 |.int k n=>if n=0 then some (.int k)else none
 |.bool t=>if t then none else some .bool
 |.string x=>if x.size=0 then some .str else none
 |.slice none 0 0=>some .sl
 |.pointer none=>some .ptr
 |.map none=>some .mp
 |.nilFunc=>some .fn
 |.nilIface=>some .GO
 |.float .f64 0=>some .eO
 |.complex .f64 0 0=>some .jI
 |_=>none
def vN(P:cC)(t:cd):Option (List Kd):=match P.info? t with
 |some i=>match i.zero with
  |some z=>z.cells.toList.mapM sE
  |none=>none
 |none=>none
def Kd.zero:Kd->SC
 |.int k=>.p (.int k) (.i 0)
 |.bool=>.p .bool (.b false)
 |.str=>.p .str (.s ByteArray.empty)
 |.sl=>.nil
 |k=>.p k .r0
theorem aoe{v k}(h:sE v=some k)(ρ):k.zero.a_ ρ=lG v/\v.oneCell'=true:=by
 unfold sE at h;split at h
 .split at h
  .rename_i a;subst a;cases h;exact⟨rfl,rfl⟩
  .cases h
 .split at h
  .cases h
  .rename_i a;simp at a;subst a;cases h;exact⟨rfl,rfl⟩
 .rename_i x;split at h
  .have:x=ByteArray.empty:=by
    simp_all
   subst this;cases h;exact⟨rfl,rfl⟩
  .cases h
 all_goals first| (cases h;exact⟨rfl,rfl⟩)|cases h
theorem vq{P t ks}(h:vN P t=some ks)(ρ):pN P t=some ((ks.map Kd.zero).map (SC.a_ ρ)):=by
 unfold vN at h;unfold pN;split at h
 .rename_i i e;split at h
  .rename_i z f;simp only[e,f];have key:∀{l:List b9}{ks:List Kd},l.mapM sE=some ks->(∀u∈l,u.oneCell'=true)/\(ks.map Kd.zero).map (SC.a_ ρ)=l.map lG:=by
    intro l
    induction l with
    |nil=>simp_all
    |cons u l ih=>
     intro ks h
     cases a:sE u with
     |none=>simp[a]at h
     |some k=>
      cases b:l.mapM sE with
      |none=>simp[a,b]at h
      |some g=>
       simp[a,b]at h;subst h;obtain⟨c,d⟩:=ih b;obtain⟨j,m⟩:=aoe a ρ;exact⟨by simpa[m]using c,by simp only[dk,d,j]⟩
   obtain⟨c,d⟩:=key h;rw[bA (by simp only[cz];exact c),d]
  .cases h
 .cases h
def aeT(P:cC)(t:cd):Nat:=match P.underlying t with
 |some (.struct a)=>a.size
 |_=>0
def G'(P:cC)(t:cd):Bool:=match P.underlying t with|some .string=>true|_=>false
def AR(P:cC)(t:cd):Option cd:=match P.underlying t with|some (.slice e)=>some e|_=>none
def ajG(P:cC)(t:cd):Option cd:=match P.underlying t with|some (.pointer e)=>some e|_=>none
def RZ(P:cC)(t:cd):Bool:=match P.underlying t with
 |some (.map a _)=>match P.underlying a with
  |some (.int .u64)=>true
  |_=>false
 |_=>false
def KA(P:cC)(t:cd):Option cd:=match P.underlying t with
 |some (.map b a)=>match P.underlying b,(P.info? a).bind (·.zero)with
  |some (.int .u64),some (.agg _)=>some a
  |_,_=>none
 |_=>none
def IB(P:cC)(t:cd):Bool:=match P.underlying t with|some (.float .f64)=>true|_=>false
theorem azL{P t}(h:IB P t=true):P.underlying t=some (.float .f64):=by
 unfold IB at h;split at h<;>simp_all
def eW(P:cC)(t:cd):Ty where
 size:=dZ P t
 agg:=lz P t
 some:=zB P t
 info:=m_ P t
 ob:=vN P t
 fields:=(List.range (aeT P t)).map (Ag P t)
 places:=Fm P t
 elem:=fr P t
 arr:=lu P t
 app:=iR P t
 c8:=qo P t
 int:=EW P t
 th:=G' P t
 sl:=AR P t
 ptr:=ajG P t
 Fq:=RZ P t
 NB:=KA P t
 Ws:=CN P t
 eO:=IB P t
abbrev bV:=List (cd×Ty)
def bV.ok(P:cC)(T:bV):Prop:=∀t r,List.lookup t T=some r->r=eW P t
theorem bV.wH{P T}(h:(T.all λx=>decide (x.2=eW P x.1))=true):bV.ok P T:=by
 intro t r a
 induction T with
 |nil=>cases a
 |cons x T ih=>
  simp only[Gs,cu,eD]at h;rw[fD]at a;split at a
  .rename_i d;simp at d;subst d;cases a;exact h.1
  .exact ih h.2 a
theorem Ty.aiS{P t f k}(h:(eW P t).fields[f]?=Option.some (Option.some k)):Ag P t f=Option.some k:=by
 simp only[eW,cX,bY]at h;obtain⟨n,a,d⟩:=h;have:=(dO.1 a).2;simp at this;rw[this];exact d
def MR:List L->Option (List L)
 |[x]=>if x.br.natAbs<9007199254740992 then some [.i x.br]else none
 |_=>none
def TH:List L->Option (List L)
 |[x,y]=>some [.c [.sc (.int .i64 x.br),.sc (.int .i64 y.br)]]
 |_=>none
def V2:List L->Option (List L)
 |[x]=>some [.i x.fS.1]
 |_=>none
def Vo:List L->Option (List L)
 |[x]=>some [.i x.fS.2]
 |_=>none
def Ce:List L->Option (List L)
 |[x,y]=>if(x.fS.1.natAbs<9007199254740992/\y.fS.1.natAbs<9007199254740992/\(x.fS.1+y.fS.1).natAbs<9007199254740992)/\x.fS.2.natAbs<9007199254740992/\y.fS.2.natAbs<9007199254740992/\(x.fS.2+y.fS.2).natAbs<9007199254740992
  then some [.c [.sc (.int .i64 (x.fS.1+y.fS.1)),.sc (.int .i64 (x.fS.2+y.fS.2))]]else none
 |_=>none
theorem zn{ρ t F args l}(h:Nd.ev ρ (.call t F args 1 [])=some [l]):F (args.map (At.ev ρ))=some [l]:=by
 simp only[Nd.ev]at h;split at h
 .rename_i b a;split at h
  .cases h;exact a
  .cases h
 .cases h
theorem agG{b}{x y l:L}(h:Ce [x,y]=some [l]):jd b .add (.complex .f64 (fK x.fS.1) (fK x.fS.2)) (.complex .f64 (fK y.fS.1) (fK y.fS.2))=some (.complex .f64 (fK l.fS.1) (fK l.fS.2)):=by
 simp only[Ce]at h;split at h
 .rename_i a;cases h;simp only[jd,cSumBits,Uw a.1.1 a.1.2.1 a.1.2.2,Uw a.2.1 a.2.2.1 a.2.2.2];rfl
 .cases h
end
section
open Go.RowKit
open Classical
structure cv where
 nds:List Nd
 v:SV
 e:gL
 rd:List Nat
def dU:gL:=⟨[],[]⟩
def cv.pure(v:SV):cv:=⟨[],v,dU,[]⟩
def cv.a_(ρ:List L)(r:cv):bZ:=⟨r.v.a_ ρ,r.e.a_ ρ,r.rd⟩
abbrev SV.c1(c:SC):SV:=.v (.c c)
def Ev(r:Ty)(cs:List SC):Option SV:=
 if r.agg then(if r.size<=cs.length/\r.info=true then some (.v (.agg (cs.take r.size)))else none)
 else match r.some,cs with
  |true,c::_=>some (.c1 c)
  |_,_=>none
theorem O9{P t cs v}(ρ)(h:Ev (eW P t) cs=some v):kW P t (cs.map (SC.a_ ρ))=some (v.a_ ρ):=by
 unfold Ev at h;unfold kW;have a:(eW P t).agg=lz P t:=rfl;have b:(eW P t).size=dZ P t:=rfl;have d:(eW P t).info=m_ P t:=rfl;have e:(eW P t).some=zB P t:=rfl;rw[a,b,d,e]at h;split at h
 .split at h
  .cases h;simp_all[SV.a_,bK.a_]
  .cases h
 .rename_i f;rw[bH f];split at h
  .rename_i c l g;cases h;simp only[dk,g];rfl
  .cases h
def iL(m:Nat):List Kd->List SC
 |[]=>[]
 |k::ks=>.p k (.v m)::iL (m+1) ks
def vX(x i:At):Nat->List Kd->List Nd
 |_,[]=>[]
 |j,k::ks=>.rc x i j k::vX x i (j+1) ks
def qm(x:At):Nat->List Kd->List Nd
 |_,[]=>[]
 |j,k::ks=>.cl x j k::qm x (j+1) ks
theorem Qt:∀(ks:List Kd)(m:Nat),(iL m ks).length=ks.length
 |[],_=>rfl
 |_::ks,m=>by simp[iL,Qt ks]
theorem X6{f:PV->PV}{g:Kd->Kd}{ρ x i}:∀{ks}{m j}{r},(∀k∈ks,∀q l,(g k).of q=some l->k.pv l=f q)->(x.ev ρ).bC[(i.ev ρ).br.toNat]?=some r->Sat ρ m (vX x i j (ks.map g))->
 (iL m ks).map (SC.a_ ρ)=(((r.drop j).map f).map C.p).take ks.length/\ks.length<=(r.drop j).length
 |[],_,_,_,_,_,_=>by simp[iL]
 |k ::ks,m,j,r,e,n,h=>by
  obtain⟨⟨ls,a,p⟩,s⟩:=h;simp only[Nd.ev,n]at a;split at a
  .rename_i q t;simp only[bY]at a;obtain⟨l,u,rfl⟩:=a;obtain⟨v,A⟩:=X6 (λw b=>e w (iz _ b)) n s;have y:r.drop j=q::r.drop (j+1):=by
    obtain⟨c,z⟩:=dO.1 t;rw[<-z];exact sS c
   have o:=p 0 (by simp[Nd.n]);simp only[lh,oZ]at o;refine⟨?_,by simp_all⟩;simp only[iL,dk,y,gy,Ot];have d:(iL (m+1) ks).map (SC.a_ ρ)=(((r.drop (j+1)).map f).map C.p).take ks.length:=v;rw[d];simp only[SC.a_,At.ev,o,gx,e k iA q l u]
  .cases a
theorem MO{f:PV->PV}{g:Kd->Kd}{ρ x}:∀{ks}{m j},(∀k∈ks,∀q l,(g k).of q=some l->k.pv l=f q)->Sat ρ m (qm x j (ks.map g))->
 (iL m ks).map (SC.a_ ρ)=((((x.ev ρ).i_.drop j).map f).map C.p).take ks.length/\ks.length<=((x.ev ρ).i_.drop j).length
 |[],_,_,_,_=>by simp[iL]
 |k ::ks,m,j,e,h=>by
  obtain⟨⟨ls,a,n⟩,o⟩:=h;simp only[Nd.ev]at a;split at a
  .rename_i q p;simp only[bY]at a;obtain⟨l,r,rfl⟩:=a;obtain⟨s,w⟩:=MO (λt b=>e t (iz _ b)) o;have u:(x.ev ρ).i_.drop j=q::(x.ev ρ).i_.drop (j+1):=by
    obtain⟨c,v⟩:=dO.1 p;rw[<-v];exact sS c
   have i:=n 0 (by simp[Nd.n]);simp only[lh,oZ]at i;refine⟨?_,by simp_all⟩;simp only[iL,dk,u,gy,Ot];have d:(iL (m+1) ks).map (SC.a_ ρ)=((((x.ev ρ).i_.drop (j+1)).map f).map C.p).take ks.length:=s;rw[d];simp only[SC.a_,At.ev,i,gx,e k iA q l r]
  .cases a
theorem aew{v k}(h:sE v=some k):k≠ .gr/\k≠ .nl:=by
 unfold sE at h;split at h<;>first
  |(cases h;exact⟨nofun,nofun⟩)
  |(split at h<;>first| (cases h;exact⟨nofun,nofun⟩)|cases h)
  |cases h
theorem CR{P t ks}(h:vN P t=some ks):∀k∈ks,k≠ .gr/\k≠ .nl:=by
 unfold vN at h;split at h
 .split at h
  .intro k b;obtain⟨i,c,rfl⟩:=jG b;obtain⟨_,d⟩:=nL h;obtain⟨a,_,e⟩:=d i _ (cY c);exact aew e
  .cases h
 .cases h
theorem Tr{P t}{k:Kd}(a:k≠ .gr/\k≠ .nl){q l}(h:k.of q=some l):k.pv l=kX P t q:=by
 unfold kX;split
 .rw[Kd.aqn h a.1 a.2];exact Kd.Ab h a.1
 .exact Kd.Ab h a.1
theorem Xz{P t}(b:lz P t=true){k:Kd}(a:k≠ .gr/\k≠ .nl){q l}(h:k.w.of q=some l):k.pv l=kX P t q:=by
 unfold kX;rw[bA b];exact Kd.auz h a.1 a.2
def mH(r:Ty)(ks:List Kd)(m:Nat):Option SV:=
 if r.agg then(if ks.length=r.size/\r.info=true then some (.v (.agg (iL m ks)))else none)
 else match r.some,ks with
  |true,[k]=>some (.c1 (.p k (.v m)))
  |_,_=>none
theorem PQ{P t ks m v ρ}{cs:List PV}(h:mH (eW P t) ks m=some v)(a:(iL m ks).map (SC.a_ ρ)=(cs.map C.p).take ks.length)(d:ks.length<=cs.length):
 kW P t (cs.map C.p)=some (v.a_ ρ):=by
 unfold mH at h;unfold kW;have e:(eW P t).agg=lz P t:=rfl;have f:(eW P t).size=dZ P t:=rfl;have g:(eW P t).info=m_ P t:=rfl;have i:(eW P t).some=zB P t:=rfl;rw[e,f,g,i]at h;split at h
 .rename_i b;rw[bA b];split at h
  .rename_i c;cases h;rw[bA ⟨by simp_all,c.2⟩,<-c.1,<-a];rfl
  .cases h
 .rename_i b;rw[bH b];split at h
  .rename_i k j;cases h
   cases cs with
   |nil=>simp at d
   |cons q l=>
    simp[iL]at a;simp only[dk,j];rw[<-a];rfl
  .cases h
def Bw(cs:List SC)(off m:Nat):Nat->Nat->Option (Kd×List At)
 |_,0=>none
 |k,c+1=>match cs[off+k*m]? with
  |some (.p b a)=>if c=0 then some (b,[a])else match Bw cs off m (k+1) c with
   |some (d,as)=>if b=d then some (b,a::as)else none
   |none=>none
  |_=>none
theorem SZ{cs:List SC}{off m:Nat}:∀{c k:Nat}{d:Kd}{as:List At},Bw cs off m k c=some (d,as)->∀(i:Nat)(a:At),as[i]?=some a->cs[off+(k+i)*m]?=some (.p d a)
 |0,_,_,_,h=>by cases h
 |c+1,k,d,as,h=>by
  intro i a b;simp only[Bw]at h;split at h
  .rename_i f o e;split at h
   .cases h
    cases i with
    |zero=>simp at b;subst b;exact e
    |succ i=>simp at b
   .split at h
    .rename_i g j l;split at h
     .rename_i n;subst n;cases h
      cases i with
      |zero=>simp at b;subst b;exact e
      |succ i=>
       have:=SZ l i a (by simpa using b);rw[show k+(i+1)=k+1+i by omega];exact this
     .cases h
    .cases h
  .cases h
def Au(cs:List SC)(off cZ m:Nat)(i:At):Nat->Nat->Option (List Kd×List Nd)
 |_,0=>some ([],[])
 |j,c+1=>match Bw cs (off+j) m 0 cZ,Au cs off cZ m i (j+1) c with
  |some (a,as),some (ks,nds)=>some (a::ks,.gk as i::nds)
  |_,_=>none
theorem K9{ρ:List L}{cs:List SC}{off cZ m:Nat}{i:At}:∀{c j b:Nat}{ks:List Kd}{nds:List Nd},Au cs off cZ m i j c=some (ks,nds)->Sat ρ b nds->
 ks.length=c/\∀d,d<c->∃k a,ks[d]?=some k/\cs[off+j+d+(i.ev ρ).br.toNat*m]?=some (.p k a)/\a.ev ρ=At.ev ρ (.v (b+d))
 |0,_,_,_,_,h,_=>by cases h;simp_all
 |c + 1,j,b,ks,nds,h,g=>by
  simp only[Au]at h;split at h
  .rename_i l as n f o p;cases h;obtain⟨⟨ls,e,q⟩,r⟩:=g;obtain⟨s,t⟩:=K9 p r;refine⟨by simp[s],λd x=>?_⟩
   cases d with
   |zero=>
    simp only[Nd.ev]at e;split at e
    .rename_i a u;cases e;have:=SZ o _ a u;refine⟨l,a,rfl,by simpa using this,?_⟩;have v:=q 0 (by simp[Nd.n]);simp only[At.ev,v];rfl
    .cases e
   |succ d=>
    obtain⟨k,a,k1,k2,w⟩:=t d om;refine⟨k,a,by simpa using k1,?_,?_⟩
    .rw[show off+j+(d+1)=off+(j+1)+d by omega];exact k2
    .rw[w];simp only[Nd.n];rw[show b+1+d=b+(d+1)by omega]
  .cases h
theorem Rm:∀{ks}{m a:Nat}{k},ks[a]?=some k->(iL m ks)[a]?=some (.p k (.v (m+a)))
 |[],_,_,_,h=>by simp at h
 |k0::ks,m,a,k,h=>by
  cases a with
  |zero=>simp at h;subst h;rfl
  |succ a=>
   have:=Rm (m:=m+1) (ks:=ks) (by simpa using h);simp only[iL,Bi];rw[this];congr 3;omega
def Ms(T:bV)(S:bq)(t:cd)(x:cF):Option cv:=
 match S.arg x,List.lookup t T with
 |some (.v (.c (.ptr n off))),some r=>match List.lookup n S.heap with
  |some (.box cs)=>(Ev r (cs.drop off)).map cv.pure
  |_=>none
 |some (.v (.c (.ia n off cZ m i))),some r=>match List.lookup n S.heap with
  |some (.box cs)=>match Au cs off cZ m i 0 (if r.agg then r.size else 1)with
   |some (ks,nds)=>(mH r ks S.nv).map λv=>⟨nds,v,dU,[]⟩
   |none=>none
  |_=>none
 |some (.v (.c (.dH n i j))),some r=>match List.lookup n S.heap,r.ob with
  |some (.row _ x),some (k::ks)=>if(List.lookup 999996 T).isSome=true/\(r.agg=true\/k::ks=[.sl])then
   (if r.agg=true then(mH r (k::ks) S.nv).map λv=>⟨vX x i j ((k::ks).map Kd.w),v,dU,[]⟩
    else(mH r [.nl] S.nv).map λv=>⟨vX x i j [.nl],v,dU,[]⟩)
   else(mH r (k::ks) S.nv).map λv=>⟨vX x i j (k::ks),v,dU,[]⟩
  |_,_=>none
 |some (.v (.c (.ref x j))),some r=>match r.ob with
  |some ks=>if(List.lookup 999996 T).isSome=true/\r.agg=true then(mH r ks S.nv).map λv=>⟨qm x j (ks.map Kd.w),v,dU,[]⟩
   else(mH r ks S.nv).map λv=>⟨qm x j ks,v,dU,[]⟩
  |none=>none
 |_,_=>none
theorem eK(ρ)(S:bq)(n):(S.a_ ρ).heap.lookup n=(List.lookup n S.heap).map (SB.a_ ρ):=cU.qs ρ S.heap n
theorem PL{P t}{cs:List SC}{off m b}{i:At}{ρ ks v}(hp:mH (eW P t) ks b=some v)(h:ks.length=if(eW P t).agg then(eW P t).size else 1)
 (n:∀d,d<ks.length->∃k a,ks[d]?=some k/\cs[off+d+(i.ev ρ).br.toNat*m]?=some (.p k a)/\a.ev ρ=At.ev ρ (.v (b+d))):kW P t ((cs.map (SC.a_ ρ)).drop (off+(i.ev ρ).br.toNat*m))=some (v.a_ ρ):=by
 have hcell:∀d,d<ks.length->((cs.map (SC.a_ ρ)).drop (off+(i.ev ρ).br.toNat*m))[d]?=((iL b ks).map (SC.a_ ρ))[d]?:=by
  intro d j;obtain⟨k,a,o,e,p⟩:=n d j;rw[kC,cX,cX,Rm o,show off+(i.ev ρ).br.toNat*m+d=off+d+(i.ev ρ).br.toNat*m by omega,e];simp only[b_,SC.a_,p]
 have hlen:ks.length<=((cs.map (SC.a_ ρ)).drop (off+(i.ev ρ).br.toNat*m)).length:=by
  rcases Nat.eq_zero_or_pos ks.length with f|f
  .omega
  .obtain⟨k,a,o,e,p⟩:=n (ks.length-1) om;have:=(dO.1 e).1;simp;omega
 unfold mH at hp;unfold kW;have q:(eW P t).agg=lz P t:=rfl;have r:(eW P t).size=dZ P t:=rfl;have s:(eW P t).info=m_ P t:=rfl;have u:(eW P t).some=zB P t:=rfl;rw[q,r,s,u]at hp;rw[q,r]at h;split at hp
 .rename_i g;rw[bA g];rw[bA g]at h;split at hp
  .rename_i e;cases hp;rw[bA ⟨om,e.2⟩,<-h];congr 3;apply sP;intro d;rw[jc];split
   .rename_i j;exact hcell d j
   .symm;simp[Qt];omega
  .cases hp
 .rename_i g;rw[bH g];split at hp
  .rename_i k w;cases hp;have f:=hcell 0 (by simp)
   cases x:(cs.map (SC.a_ ρ)).drop (off+(i.ev ρ).br.toNat*m)with
   |nil=>simp_all
   |cons c l=>
    rw[x]at f;simp[iL]at f;simp only[w];rw[f];rfl
  .cases hp
section
variable{P:cC}{T:bV}{S:bq}{ρ:List L}
theorem agQ(B:bV.ok P T){t x r}(h:Ms T S t x=some r)(D:Sat ρ S.nv r.nds):(oG P (S.a_ ρ) t x).map bZ.pure=some (r.a_ ρ):=by
 unfold Ms at h;split at h
 .rename_i n off row s u;have:=B _ _ u;subst this;split at h
  .rename_i cs z;simp only[bY]at h;obtain⟨v,b,rfl⟩:=h;simp only[oG,bq.cG ρ s,eK,z,b_,SB.a_,SV.a_,bK.a_,SC.a_];rw[<-nR,O9 ρ b];rfl
  .cases h
 .rename_i n off cZ m i row s u;have:=B _ _ u;subst this;split at h
  .rename_i cs z;split at h
   .rename_i ks nds M;simp only[bY]at h;obtain⟨v,b,rfl⟩:=h;simp only[oG,bq.cG ρ s,eK,z,b_,SB.a_,SV.a_,bK.a_,SC.a_];obtain⟨f,E⟩:=K9 M D;rw[PL b f (λO Q=>by
     simp_all)]
    rfl
   .cases h
  .cases h
 .rename_i n i j row s u;have:=B _ _ u;subst this;split at h
  .rename_i e y k ks z G;have d:=CR (P:=P) (t:=t) G;have key:∀(c:List Kd)(g:Kd->Kd),(∀k∈c,∀q l,(g k).of q=some l->k.pv l=kX P t q)->c≠ []->∀(v:SV),mH (eW P t) c S.nv=some v->r=⟨vX y i j (c.map g),v,dU,[]⟩->(oG P (S.a_ ρ) t x).map bZ.pure=some (r.a_ ρ):=by
    intro c g H N v b w;subst w;simp only[oG,bq.cG ρ s,eK,z,b_,SB.a_,SV.a_,bK.a_,SC.a_];have hrow:∃F,(y.ev ρ).bC[(i.ev ρ).br.toNat]?=some F:=by
     cases c with
     |nil=>exact absurd rfl N
     |cons k0 c=>
      obtain⟨⟨ls,f,_⟩,_⟩:=D;simp only[Nd.ev]at f;split at f
      .simp_all
      .cases f
    obtain⟨F,A⟩:=hrow;obtain⟨f,E⟩:=X6 H A D;rw[A];have I:(F.drop j).map (λp=>C.p (kX P t p))=((F.drop j).map (kX P t)).map C.p:=by rw[gp];rfl
    simp only;rw[I,PQ b f (by rw[bD];exact E)];rfl
   split at h
   .rename_i K;split at h
    .rename_i J;simp only[bY]at h;obtain⟨v,b,rfl⟩:=h;exact key (k::ks) Kd.w (λo a q l=>Xz J (d o a)) (by simp) v b rfl
    .rename_i J;simp only[bY]at h;obtain⟨v,b,rfl⟩:=h;refine key [.nl] id (λo a q l h=>?_) (by simp) v b rfl;simp only[jX]at a;subst a;unfold kX;rw[bH (show¬lz P t=true from J)];exact Kd.Ab h dc
   .simp only[bY]at h;obtain⟨v,b,rfl⟩:=h;exact key (k::ks) id (λo a q l=>Tr (d o a)) (by simp) v b (by rw[Gu])
  .cases h
 .rename_i y j row s u;have:=B _ _ u;subst this;split at h
  .rename_i ks G;have d:=CR (P:=P) (t:=t) G;have key:∀(g:Kd->Kd),(∀k∈ks,∀q l,(g k).of q=some l->k.pv l=kX P t q)->∀(v:SV),mH (eW P t) ks S.nv=some v->r=⟨qm y j (ks.map g),v,dU,[]⟩->(oG P (S.a_ ρ) t x).map bZ.pure=some (r.a_ ρ):=by
    intro g H v b w;subst w;simp only[oG,bq.cG ρ s,SV.a_,bK.a_,SC.a_];obtain⟨f,E⟩:=MO H D;have I:((y.ev ρ).i_.drop j).map (λp=>C.p (kX P t p))=(((y.ev ρ).i_.drop j).map (kX P t)).map C.p:=by rw[gp];rfl
    rw[I,PQ b f (by rw[bD];exact E)];rfl
   split at h
   .rename_i K;simp only[bY]at h;obtain⟨v,b,rfl⟩:=h;exact key Kd.w (λo a q l=>Xz K.2 (d o a)) v b rfl
   .simp only[bY]at h;obtain⟨v,b,rfl⟩:=h;exact key id (λo a q l=>Tr (d o a)) v b (by rw[Gu])
  .cases h
 .cases h
end
end
end
end Go.Proofs.YtiikkkhcolcebaaGreatDoor
