/- A part. -/
import Derived.Test.YtiikkkhcolcebaaGreatDoorG3
set_option linter.all false
set_option maxHeartbeats 4000000
set_option maxRecDepth 100000
namespace Go.Proofs.YtiikkkhcolcebaaGreatDoor
noncomputable section
section
open Go.RowKit
inductive Kd where
 |int (k:fE)|bool|str|sl|ptr|mp|fn|IS|fp|kM|nl|ie
deriving DecidableEq,Repr,Inhabited
inductive L where
 |i (n:Int)|b (t:Bool)|s (x:gh)|r (rows:List (List PV))|c (cells:List PV)
deriving Inhabited
def L.br:L->Int| .i n=>n|_=>0
def L.eF:L->Bool| .b t=>t|_=>false
def L.gJ:L->gh| .s x=>x|_=>ByteArray.empty
def L.bE:L->List (List PV)| .r x=>x|_=>[]
def L.jS:L->List PV| .c x=>x|_=>[]
def L.gI:L->Int×Int| .c [.sc (.int _ m),.sc (.int _ n)]=>(m,n)|_=>(0,0)
inductive At where
 |v (n:Nat)|i (n:Int)|b (t:Bool)|s (x:gh)|r0
deriving Inhabited
def At.ev(ρ:List L):At->L
 |.v n=>(ρ[n]?).getD (.b false)
 |.i n=>.i n
 |.b t=>.b t
 |.s x=>.s x
 |.r0=>.r []
def Kd.pv(k:Kd)(l:L):PV:=match k with
 |.int k=>.sc (.int k l.br)
 |.bool=>.sc (.bool l.eF)
 |.str=>.sc (.string l.gJ)
 |.sl=>.sl l.bE
 |.ptr=>.sc (.pointer none)
 |.mp=>.sc (.map none)
 |.fn=>.sc .nilFunc
 |.IS=>.sc .nilIface
 |.fp=>.sc (.float .f64 (gA l.br))
 |.kM=>.sc (.complex .f64 (gA l.gI.1) (gA l.gI.2))
 |.nl=>.nl
 |.ie=>.sl l.bE
def Kd.of(k:Kd)(q:PV):Option L:=match k,q with
 |.int k,.sc (.int a n)=>if k=a then some (.i n)else none
 |.bool,.sc (.bool t)=>some (.b t)
 |.str,.sc (.string x)=>some (.s x)
 |.sl,.sl rows=>some (.r rows)
 |.nl,.nl=>some (.r [])
 |.ie,.sl rows=>some (.r rows)
 |.ie,.nl=>some (.r [])
 |_,_=>none
def Kd.w:Kd->Kd
 |.sl=>.ie
 |k=>k
def Kd.BP{k:Kd}{q l}(h:k.of q=some l)(a:k≠ .ie):k.pv l=q:=by
 unfold Kd.of at h;split at h
 .split at h
  .rename_i a;subst a;cases h;rfl
  .cases h
 all_goals first| (cases h;rfl)|exact absurd rfl a|cases h
def Kd.axX{k:Kd}{q l}(h:k.w.of q=some l)(d:k≠ .ie)(a:k≠ .nl):k.pv l=q.wk:=by
 cases k<;>cases q<;>simp only[Kd.w,Kd.of]at h<;>first
  |(cases h;rfl)
  |exact absurd rfl d
  |exact absurd rfl a
  |(rename_i v;cases v<;>simp only[]at h<;>first| (cases h;rfl)|cases h| (split at h; (rename_i m;subst m;cases h;rfl);cases h))
  |cases h
def Kd.atK{k:Kd}{q l}(h:k.of q=some l)(d:k≠ .ie)(a:k≠ .nl):q.wk=q:=by
 cases q with
 |nl=>cases k<;>simp[Kd.of]at h<;>first|exact absurd rfl d|exact absurd rfl a
 |_=>rfl
inductive SC where
 |p (k:Kd) (x:At)
 |nil
 |own (n:Nat)
 |sub (n:Nat) (lo len:At)
 |ptr (n off:Nat)
 |iZ (n off dm m:Nat) (i:At)
 |d' (n:Nat) (i:At) (j:Nat)
 |ref (x:At) (j:Nat)
 |fn (f:FuncId) (eS:List Nat)
 |mp (n:Nat)
 |dead
deriving Inhabited
def SC.a_(ρ:List L):SC->C
 |.p k x=>.p (k.pv (x.ev ρ))
 |.nil=>.nil
 |.own n=>.own n
 |.sub n lo len=>.sub n (lo.ev ρ).br.toNat (len.ev ρ).br.toNat
 |.ptr n off=>.ptr n off
 |.iZ n off _ m i=>.ptr n (off+(i.ev ρ).br.toNat*m)
 |.d' n i j=>.d' n (i.ev ρ).br.toNat j
 |.ref x j=>.ref ((x.ev ρ).jS.drop j)
 |.fn f eS=>.fn f eS
 |.mp n=>.mp n
 |.dead=>.dead
inductive bN where
 |c (c:SC)
 |agg (cs:List SC)
deriving Inhabited
inductive SV where
 |v (x:bN)
 |bM (xs:List bN)
deriving Inhabited
inductive SB where
 |box (cs:List SC)
 |row (e:cf) (x:At)
 |map (x:At)
deriving Inhabited
def bN.a_(ρ:List L):bN->V1
 |.c y=>.c (y.a_ ρ)
 |.agg cs=>.agg (cs.map (SC.a_ ρ))
def SV.a_(ρ:List L):SV->V
 |.v x=>.v (x.a_ ρ)
 |.bM xs=>.bM (xs.map (bN.a_ ρ))
def SB.a_(ρ:List L):SB->fv
 |.box cs=>.box (cs.map (SC.a_ ρ))
 |.row e x=>.row e (x.ev ρ).bE
 |.map x=>.map (x.ev ρ).bE
abbrev dh:=List (Nat×SB)
def dh.a_(ρ:List L)(h:dh):Hp:=h.map λx=>(x.1,x.2.a_ ρ)
structure iF where
 cq:dh
 bx:List Nat
def iF.a_(ρ:List L)(e:iF):iI:=⟨e.cq.a_ ρ,e.bx⟩
structure bt where
 tmps:List SV
 heap:dh
 bx:List Nat
 next:Nat
 nv:Nat
deriving Inhabited
def bt.a_(ρ:List L)(S:bt):bC:=⟨S.tmps.map (SV.a_ ρ),S.heap.a_ ρ,S.bx,S.next⟩
def dh.rP(ρ)(h:dh)(n):List.lookup n (h.a_ ρ)=(List.lookup n h).map (SB.a_ ρ):=by
 induction h with
 |nil=>rfl
 |cons x h ih=>
  obtain⟨k,b⟩:=x;simp only[dh.a_,dE,gb]at ih⊢;split
  .rfl
  .exact ih
def SC.names:SC->List Nat
 |.own n=>[n]| .sub n _ _=>[n]| .ptr n _=>[n]| .iZ n _ _ _ _=>[n]| .d' n _ _=>[n]| .mp n=>[n]| .fn _ eS=>eS|_=>[]
def bN.names:bN->List Nat
 |.c x=>x.names
 |.agg xs=>xs.flatMap SC.names
def SV.names:SV->List Nat
 |.v x=>x.names
 |.bM xs=>xs.flatMap bN.names
def SB.names:SB->List Nat
 |.box cs=>cs.flatMap SC.names
 |_=>[]
def SC.oX(ρ)(c:SC):(c.a_ ρ).names=c.names:=by cases c<;>rfl
def SC.W7(ρ)(cs:List SC):(cs.map (SC.a_ ρ)).flatMap C.names=cs.flatMap SC.names:=by
 induction cs with
 |nil=>rfl
 |cons c cs ih=>simp only[dE,List.flatMap_cons,SC.oX,ih]
def bN.oX(ρ)(x:bN):(x.a_ ρ).names=x.names:=by
 cases x with
 |c c=>exact SC.oX ρ c
 |agg cs=>exact SC.W7 ρ cs
theorem SV.oX(ρ)(x:SV):(x.a_ ρ).names=x.names:=by
 cases x with
 |v x=>exact bN.oX ρ x
 |bM xs=>
  show(xs.map (bN.a_ ρ)).flatMap V1.names=xs.flatMap bN.names
  induction xs with
  |nil=>rfl
  |cons c cs ih=>simp only[dE,List.flatMap_cons,bN.oX,ih]
def SC.pb:SC->Bool
 |.dead=>true
 |_=>false
def SV.pb:SV->Bool
 |.v (.c c)=>c.pb
 |_=>false
def SV.live(bx:List Nat)(v:SV):Bool:= !v.pb&&v.names.all λn=> !bx.contains n
def SV.Zv(ρ)(g)(x:SV):(x.a_ ρ).live g=x.live g:=by
 unfold V.live SV.live;rw[SV.oX]
 cases x with
 |v x=>
  cases x with
  |c c=>cases c<;>rfl
  |agg=>rfl
 |bM=>rfl
def K7:b8->SC
 |.slice none 0 0=>.nil
 |.int k n=>.p (.int k) (.i n)
 |.bool t=>.p .bool (.b t)
 |.string x=>.p .str (.s x)
 |.pointer none=>.p .ptr .r0
 |.map none=>.p .mp .r0
 |.nilFunc=>.p .fn .r0
 |.nilIface=>.p .IS .r0
 |.float .f64 0=>.p .fp (.i 0)
 |.complex .f64 0 0=>.p .kM .r0
 |_=>.dead
def wG:b8->Bool
 |.slice none 0 0=>true
 |.int _ _=>true| .bool _=>true| .string _=>true| .pointer none=>true| .map none=>true| .nilFunc=>true| .nilIface=>true| .float .f64 0=>true| .complex .f64 0 0=>true
 |_=>false
def ava(ρ){v}(h:wG v=true):(K7 v).a_ ρ=mL v:=by
 unfold wG at h;split at h<;>first|rfl|cases h
def HN:b8->Option bN
 |.agg us=>if us.toList.all wG then some (.agg (us.toList.map K7))else none
 |.func (.func f) first captured=>if first.size=0/\captured.size=0 then some (.c (.fn f []))else none
 |v=>if wG v then some (.c (K7 v))else none
def agm{v}(h:wG v=true):v.oneCell'=true:=by
 unfold wG at h;split at h<;>first|rfl|cases h
def anO(ρ){v x}(h:HN v=some x):x.a_ ρ=ofValue v:=by
 unfold HN at h;split at h
 .split at h
  .rename_i hall;cases h;simp only[cI]at hall;simp only[bN.a_,ofValue];rw[bB (by simp only[cI];exactλu a=>agm (hall u a))];simp only[gW];congr 1;apply ia;intro u a;exact ava ρ (hall u a)
  .cases h
 .split at h
  .rename_i c;cases h;simp only[ofValue,bB c];rfl
  .cases h
 .split at h
  .rename_i b;cases h;unfold wG at b;split at b<;>first|rfl|cases b
  .cases h
def bt.arg(S:bt):cL->Option SV
 |.tmp t=>match S.tmps[t]? with
  |some x=>if x.live S.bx then some x else none
  |none=>none
 |.const v=>match HN v with
  |some x=>if(SV.v x).live S.bx then some (.v x)else none
  |none=>none
 |.func f=>some (.v (.c (.fn f [])))
 |.global _=>none
theorem bt.cO(ρ){S:bt}{x v}(h:S.arg x=some v):(S.a_ ρ).arg x=some (v.a_ ρ):=by
 cases x with
 |tmp t=>
  simp only[bt.arg]at h;split at h
  .rename_i y a;split at h
   .rename_i d;cases h;simp only[bC.arg,bt.a_,cY,a,cg,SV.Zv,d,if_true]
   .cases h
  .cases h
 |const u=>
  simp only[bt.arg]at h;split at h
  .rename_i y a;split at h
   .rename_i d;cases h;have k:=anO ρ a;have m:=SV.Zv ρ S.bx (.v y);simp only[SV.a_,k,d]at m;simp only[bC.arg,SV.a_,k];exact bB m
   .cases h
  .cases h
 |func f=>cases h;rfl
 |global=>cases h
def eC(op:BinOp)(k:fE)(a b:Int):Option L:=match op with
 |.add=>some (.i (k.wrap (a+b)))
 |.sub=>some (.i (k.wrap (a-b)))
 |.mul=>some (.i (k.wrap (a*b)))
 |.quo=>if b≠0 then some (.i (k.wrap (a.tdiv b)))else none
 |.rem=>if b≠0 then some (.i (a.tmod b))else none
 |.and=>some (.i (k.wrap (BitVec.ofInt k.bits a&&&BitVec.ofInt k.bits b).toNat))
 |.or=>some (.i (k.wrap (BitVec.ofInt k.bits a|||BitVec.ofInt k.bits b).toNat))
 |.xor=>some (.i (k.wrap (BitVec.ofInt k.bits a^^^BitVec.ofInt k.bits b).toNat))
 |.andNot=>some (.i (k.wrap (BitVec.ofInt k.bits a&&& ~~~ BitVec.ofInt k.bits b).toNat))
 |.shl=>if 0<=b then some (.i (k.wrap (a*2^ (min b.toNat k.bits))))else none
 |.shr=>if 0<=b then some (.i (a.fdiv (2^ (min b.toNat k.bits))))else none
 |.eql=>some (.b (decide (a=b)))
 |.neq=>some (.b (decide (a≠b)))
 |.lss=>some (.b (decide (a<b)))
 |.leq=>some (.b (decide (a<=b)))
 |.gtr=>some (.b (decide (b<a)))
 |.geq=>some (.b (decide (b<=a)))
def xO(op:BinOp)(a b:gh):Option L:=match op with
 |.add=>if((a.size+b.size:Nat):Int)<=9223372036854775807 then some (.s (a++b))else none
 |.eql=>some (.b (a.toList==b.toList))
 |.neq=>some (.b (!(a.toList==b.toList)))
 |.lss=>some (.b (Op.bytesLess a.toList b.toList))
 |.leq=>some (.b (Op.bytesLess a.toList b.toList||a.toList==b.toList))
 |.gtr=>some (.b (!(Op.bytesLess a.toList b.toList||a.toList==b.toList)))
 |.geq=>some (.b (!(Op.bytesLess a.toList b.toList)))
 |_=>none
def oj(op:BinOp)(a b:Bool):Option L:=match op with
 |.eql=>some (.b (a==b))
 |.neq=>some (.b (!(a==b)))
 |.and=>some (.b (a&&b))
 |_=>none
def nJ:BinOp->Bool
 |.eql| .neq| .lss| .leq| .gtr| .geq=>true
 |_=>false
def NW:BinOp->Bool
 |.shl| .shr=>true
 |_=>false
def Uv(op:UnOp)(k:fE)(n:Int):Option L:=match op with
 |.neg=>some (.i (k.wrap (0-n)))
 |.xor=>some (.i (k.wrap (BitVec.ofInt k.bits (if k.signed then-1 else k.max) ^^^BitVec.ofInt k.bits n).toNat))
 |_=>none
inductive Nd where
 |bi (op:BinOp) (k:fE) (x y:At)
 |bs (op:BinOp) (x y:At)
 |bb (op:BinOp) (x y:At)
 |not (x:At)
 |un (op:UnOp) (k:fE) (x:At)
 |conv (k:fE) (x:At)
 |len (x:At)
 |nG (x:At)
 |row (x i:At) (size:Nat)
 |ir (x lo len i:At) (size:Nat)
 |rc (x i:At) (j:Nat) (k:Kd)
 |cl (x:At) (j:Nat) (k:Kd)
 |dM (i:At) (dm:Nat)
 |ix (xs:List At) (i:At)
 |cq (x i:At) (k:Nat) (y:At)
 |part (x lo hi:At) (size:Nat)
 |cut (x lo hi:At) (size:Nat)
 |AU (x l0 len lo hi:At) (size:Nat)
 |vw (x lo len:At)
 |tk (x len:At)
 |app (x y:At) (n b:Nat)
 |set (x i:At) (j:Nat) (ps:List (Kd×At))
 |lit (rows:List (List (Kd×At)))
 |jY (n:At) (ps:List (Kd×At)) (b:Nat)
 |HV (x y:At) (size:Nat)
 |px (x lo len y:At) (size:Nat)
 |tQ (x len y:At) (size:Nat)
 |str (x:At)
 |A5 (x i:At)
 |JK (x lo hi:At)
 |mn (x y:At)
 |mx (x y:At)
 |call (tag:Nat) (F:List L->Option (List L)) (args:List At) (n:Nat) (bs:List Nat)
deriving Inhabited
def pD(size:Nat)(rows:List (List PV)):Bool:=match rows with
 |[]=>true
 |r::_=>r.length==size
def cZ(ρ:List L)(ps:List (Kd×At)):List PV:=ps.map λx=>x.1.pv (x.2.ev ρ)
def Nd.ev(ρ:List L):Nd->Option (List L)
 |.bi op k x y=>(eC op k (x.ev ρ).br (y.ev ρ).br).map ([·])
 |.bs op x y=>(xO op (x.ev ρ).gJ (y.ev ρ).gJ).map ([·])
 |.bb op x y=>(oj op (x.ev ρ).eF (y.ev ρ).eF).map ([·])
 |.not x=>some [.b (!(x.ev ρ).eF)]
 |.un op k x=>(Uv op k (x.ev ρ).br).map ([·])
 |.conv k x=>some [.i (k.wrap (x.ev ρ).br)]
 |.len x=>some [.i (x.ev ρ).bE.length]
 |.nG x=>some [.i (x.ev ρ).gJ.size]
 |.row x i size=>if 0<=(i.ev ρ).br then match(x.ev ρ).bE[(i.ev ρ).br.toNat]? with
  |some r=>if r.length=size then some [.c r]else none
  |none=>none
  else none
 |.ir x lo ln i size=>if 0<=(i.ev ρ).br then match(x.ev ρ).bE[(lo.ev ρ).br.toNat+(i.ev ρ).br.toNat]? with
  |some r=>if r.length=size/\(i.ev ρ).br.toNat< (ln.ev ρ).br.toNat then some [.i (((lo.ev ρ).br.toNat+(i.ev ρ).br.toNat:Nat):Int)]else none
  |none=>none
  else none
 |.rc x i j k=>match(x.ev ρ).bE[(i.ev ρ).br.toNat]? with
  |some r=>match r[j]? with
   |some q=>(k.of q).map ([·])
   |none=>none
  |none=>none
 |.cl x j k=>match(x.ev ρ).jS[j]? with
  |some q=>(k.of q).map ([·])
  |none=>none
 |.dM i dm=>if 0<=(i.ev ρ).br/\(i.ev ρ).br<dm then some []else none
 |.ix xs i=>match xs[(i.ev ρ).br.toNat]? with
  |some x=>some [x.ev ρ]
  |none=>none
 |.cq x i k y=>some [if(i.ev ρ).br.toNat=k then y.ev ρ else x.ev ρ]
 |.part x lo a size=>if 0<=(lo.ev ρ).br/\(lo.ev ρ).br<=(a.ev ρ).br/\(a.ev ρ).br.toNat<=(x.ev ρ).bE.length/\cC size (x.ev ρ).bE=true then some [.r (((x.ev ρ).bE.take (a.ev ρ).br.toNat).drop (lo.ev ρ).br.toNat)]else none
 |.cut x lo a size=>if 0<=(lo.ev ρ).br/\(lo.ev ρ).br<=(a.ev ρ).br/\(a.ev ρ).br.toNat<=(x.ev ρ).bE.length/\pD size (x.ev ρ).bE=true then some [.i (((a.ev ρ).br.toNat- (lo.ev ρ).br.toNat:Nat):Int)]else none
 |.AU x d ln lo a size=>if 0<=(lo.ev ρ).br/\(lo.ev ρ).br<=(a.ev ρ).br/\(a.ev ρ).br.toNat<=(ln.ev ρ).br.toNat/\pD size (x.ev ρ).bE=true then some [.i (((d.ev ρ).br.toNat+(lo.ev ρ).br.toNat:Nat):Int),.i (((a.ev ρ).br.toNat- (lo.ev ρ).br.toNat:Nat):Int)]else none
 |.vw x lo ln=>some [.r (((x.ev ρ).bE.drop (lo.ev ρ).br.toNat).take (ln.ev ρ).br.toNat)]
 |.tk x ln=>some [.r ((x.ev ρ).bE.take (ln.ev ρ).br.toNat)]
 |.app x y n b=>if(x.ev ρ).bE.length+(y.ev ρ).bE.length<=9223372036854775807/\((x.ev ρ).bE.length+(y.ev ρ).bE.length)*b<=140737488355328/\cC n (x.ev ρ).bE=true/\cC n (y.ev ρ).bE=true then some [.r ((x.ev ρ).bE++(y.ev ρ).bE)]else none
 |.set x i j ps=>match(x.ev ρ).bE[(i.ev ρ).br.toNat]? with
  |some r=>if j+ps.length<=r.length then some [.r ((x.ev ρ).bE.set (i.ev ρ).br.toNat (r.take j++cZ ρ ps++r.drop (j+ps.length)))]else none
  |none=>none
 |.lit rows=>some [.r (rows.map (cZ ρ))]
 |.jY n ps b=>if 0<=(n.ev ρ).br/\(n.ev ρ).br<=9223372036854775807/\b*(n.ev ρ).br.toNat<=281474976710656 then some [.r (List.replicate (n.ev ρ).br.toNat (cZ ρ ps))]else none
 |.HV x y size=>if cC size (y.ev ρ).bE=true then some [.r ((y.ev ρ).bE.take (min (y.ev ρ).bE.length (x.ev ρ).bE.length)++(x.ev ρ).bE.drop (min (y.ev ρ).bE.length (x.ev ρ).bE.length)),.i ((min (y.ev ρ).bE.length (x.ev ρ).bE.length:Nat):Int)]else none
 |.px x lo ln y size=>if cC size (y.ev ρ).bE=true/\(lo.ev ρ).br.toNat+(ln.ev ρ).br.toNat<=(x.ev ρ).bE.length then some [.r ((x.ev ρ).bE.take (lo.ev ρ).br.toNat++(y.ev ρ).bE.take (min (y.ev ρ).bE.length (ln.ev ρ).br.toNat)++(x.ev ρ).bE.drop ((lo.ev ρ).br.toNat+min (y.ev ρ).bE.length (ln.ev ρ).br.toNat)),.i ((min (y.ev ρ).bE.length (ln.ev ρ).br.toNat:Nat):Int)]else none
 |.tQ x ln y size=>if cC size (y.ev ρ).bE=true/\(ln.ev ρ).br.toNat+(y.ev ρ).bE.length<=(x.ev ρ).bE.length then some [.r ((x.ev ρ).bE.take (ln.ev ρ).br.toNat++(y.ev ρ).bE++(x.ev ρ).bE.drop ((ln.ev ρ).br.toNat+(y.ev ρ).bE.length)),.i (((ln.ev ρ).br.toNat+(y.ev ρ).bE.length:Nat):Int)]else none
 |.str x=>(mD (x.ev ρ).bE).map λl=>[.s (strOfNums l)]
 |.A5 x i=>if 0<=(i.ev ρ).br then match(x.ev ρ).gJ[(i.ev ρ).br.toNat]? with
  |some b=>some [.i b.toNat]
  |none=>none
  else none
 |.JK x lo a=>if 0<=(lo.ev ρ).br/\(lo.ev ρ).br<=(a.ev ρ).br/\(a.ev ρ).br<=(x.ev ρ).gJ.size then some [.s ((x.ev ρ).gJ.extract (lo.ev ρ).br.toNat (a.ev ρ).br.toNat)]else none
 |.mn x y=>some [.i (if(y.ev ρ).br< (x.ev ρ).br then(y.ev ρ).br else(x.ev ρ).br)]
 |.mx x y=>some [.i (if(y.ev ρ).br> (x.ev ρ).br then(y.ev ρ).br else(x.ev ρ).br)]
 |.call _ F args n us=>match F (args.map (At.ev ρ))with
  |some l=>if l.length=n/\(us.all λi=>((l[i]?).getD (.b false)).bE.all (·.all PV.bare))=true then some l else none
  |none=>none
def Nd.n:Nd->Nat
 |.dM _ _=>0
 |.AU .. =>2
 |.HV .. =>2
 |.px .. =>2
 |.tQ .. =>2
 |.call _ _ _ n _=>n
 |_=>1
def Nd.Oc{ρ}{a:Nd}{ls}(h:a.ev ρ=some ls):ls.length=a.n:=by
 cases a<;>simp only[Nd.ev,Nd.n]at h⊢<;>first
  |(cases h;rfl)
  |(simp only[b9]at h;obtain⟨_,_,rfl⟩:=h;rfl)
  |(split at h<;>first| (cases h;first|rfl|assumption|exact(And.left ‹_/\_›))|cases h| (split at h<;>first| (cases h;first|rfl|assumption|exact(And.left ‹_/\_›))|cases h| (split at h<;>first| (cases h;first|rfl|assumption|exact(And.left ‹_/\_›))|cases h)| (simp only[b9]at h;obtain⟨_,_,rfl⟩:=h;rfl)| (cases h;first|rfl|assumption|exact(And.left ‹_/\_›)))| (simp only[b9]at h;obtain⟨_,_,rfl⟩:=h;rfl))
def At.in(m:Nat):At->Bool
 |.v n=>decide (n<m)
 |_=>true
def Bk(m:Nat)(ps:List (Kd×At)):Bool:=ps.all λx=>x.2.in m
def Nd.in(m:Nat):Nd->Bool
 |.bi _ _ x y| .bs _ x y| .bb _ x y| .row x y _| .rc x y _ _| .tk x y| .app x y _ _| .HV x y _| .A5 x y| .mn x y| .mx x y=>x.in m&&y.in m
 |.not x| .un _ _ x| .conv _ x| .len x| .nG x| .cl x _ _| .dM x _| .str x=>x.in m
 |.ir x a b c _| .px x a b c _=>x.in m&&a.in m&&b.in m&&c.in m
 |.ix xs i=>xs.all (At.in m)&&i.in m
 |.cq x i _ y| .tQ x i y _| .part x i y _| .cut x i y _| .vw x i y| .JK x i y=>x.in m&&i.in m&&y.in m
 |.AU x a b c d _=>x.in m&&a.in m&&b.in m&&c.in m&&d.in m
 |.set x i _ ps=>x.in m&&i.in m&&Bk m ps
 |.lit rows=>rows.all (Bk m)
 |.jY n ps _=>n.in m&&Bk m ps
 |.call _ _ args _ _=>args.all (At.in m)
theorem At.fX{m ρ xs}{x:At}(h:x.in m=true)(a:m<=ρ.length):x.ev (ρ++xs)=x.ev ρ:=by
 cases x with
 |v n=>
  simp only[At.in,e_]at h;simp only[At.ev];rw[nz om]
 |_=>rfl
def Pq{m ρ xs ps}(h:Bk m ps=true)(a:m<=ρ.length):cZ (ρ++xs) ps=cZ ρ ps:=by
 apply ia;intro y b;simp only[Bk,cI]at h;rw[At.fX (h y b) a]
def Nd.fX{m ρ xs}{d:Nd}(h:d.in m=true)(a:m<=ρ.length):d.ev (ρ++xs)=d.ev ρ:=by
 cases d
 case ix ys i=>
  simp only[Nd.in,cF,cI]at h;simp only[Nd.ev,At.fX h.2 a]
  cases q:ys[(i.ev ρ).br.toNat]? with
  |none=>rfl
  |some x=>simp only[At.fX (h.1 x (eN q)) a]
 case lit rows=>
  simp only[Nd.in,cI]at h;simp only[Nd.ev];congr 3;apply ia;intro y k;exact Pq (h y k) a
 case call F args n bs=>
  simp only[Nd.in,cI]at h;simp only[Nd.ev];rw[ia (g:=At.ev ρ) (λy k=>At.fX (h y k) a)]
 case set x i j ps=>
  simp only[Nd.in,cF]at h;simp only[Nd.ev,At.fX h.1.1 a,At.fX h.1.2 a,Pq h.2 a]
 case jY n ps b=>
  simp only[Nd.in,cF]at h;simp only[Nd.ev,At.fX h.1 a,Pq h.2 a]
 all_goals
  simp only[Nd.in,cF]at h
  first
   |(simp only[Nd.ev,At.fX h a];done)
   |(simp only[Nd.ev,At.fX h.1 a,At.fX h.2 a];done)
   |(simp only[Nd.ev,At.fX h.1.1 a,At.fX h.1.2 a,At.fX h.2 a];done)
   |(simp only[Nd.ev,At.fX h.1.1.1 a,At.fX h.1.1.2 a,At.fX h.1.2 a,At.fX h.2 a];done)
   |(simp only[Nd.ev,At.fX h.1.1.1.1 a,At.fX h.1.1.1.2 a,At.fX h.1.1.2 a,At.fX h.1.2 a,At.fX h.2 a];done)
def Sat(ρ:List L):Nat->List Nd->Prop
 |_,[]=>True
 |m,a::nds=>(∃ls,a.ev ρ=some ls/\∀i,i<a.n->ρ[m+i]?=ls[i]?)/\Sat ρ (m+a.n) nds
def ib:List Nd->Nat
 |[]=>0
 |nd::nds=>nd.n+ib nds
def rC(ρ:List L):List Nd->Option (List L)
 |[]=>some ρ
 |nd::nds=>match nd.ev ρ with
  |some ls=>rC (ρ++ls) nds
  |none=>none
def uN:Nat->List Nd->Bool
 |_,[]=>true
 |m,a::nds=>a.in m&&uN (m+a.n) nds
def Gq:∀{nds:List Nd}{ρ a:List L},rC ρ nds=some a->∃xs,a=ρ++xs/\xs.length=ib nds
 |[],ρ,a,h=>by cases h;exact⟨[],by simp,rfl⟩
 |nd::nds,ρ,a,h=>by
  simp only[rC]at h;split at h
  .rename_i ls b;obtain⟨xs,c,d⟩:=Gq h;exact⟨ls++xs,by rw[c,dr],by simp[d,Nd.Oc b,ib]⟩
  .cases h
def JS:∀{nds:List Nd}{ρ a ys:List L},uN ρ.length nds=true->rC ρ nds=some a->Sat (a++ys) ρ.length nds
 |[],_,_,_,_,_=>trivial
 |nd ::nds,ρ,a,ys,c,h=>by
  simp only[uN,cF]at c;simp only[rC]at h;split at h
  .rename_i ls b;have d:=Nd.Oc b;obtain⟨xs,e,g⟩:=Gq h;refine⟨⟨ls,?_,λi f=>?_⟩,?_⟩
   .rw[e,dr,dr,Nd.fX c.1 (dz _)];exact b
   .rw[e,dr,dr,kX om,Nat.add_sub_cancel_left,nz om]
   .have:=JS (ys:=ys) (nds:=nds) (ρ:=ρ++ls) (by rw[cw,d];exact c.2) h;rw[cw,d]at this;exact this
  .cases h
def Sat.one{ρ m a nds}(h:Sat ρ m (a::nds)):∃ls,a.ev ρ=some ls/\∀i,i<a.n->At.ev ρ (.v (m+i))=(ls[i]?).getD (.b false):=by
 obtain⟨⟨ls,d,k⟩,_⟩:=h;exact⟨ls,d,λi q=>by simp only[At.ev,k i q]⟩
def Sat.app:∀{ρ}{m}{a b},Sat ρ m (a++b)->Sat ρ m a/\Sat ρ (m+ib a) b
 |_,_,[],b,h=>⟨trivial,by simpa[ib]using h⟩
 |ρ,m,u::a,b,h=>by
  obtain⟨d,k⟩:=h;obtain⟨q,t⟩:=Sat.app (a:=a) k;exact⟨⟨d,q⟩,by simpa[ib,zD]using t⟩
structure Ty where
 size:Nat
 agg:Bool
 some:Bool
 info:Bool
 pa:Option (List Kd)
 fields:List (Option Nat)
 places:Option (List (Nat×Nat))
 elem:Option cf
 arr:Option (Nat×cf)
 app:Option (Nat×Nat)
 dp:Bool
 int:Option fE
 uJ:Bool
 sl:Option cf
 ptr:Option cf
 HA:Bool
 PI:Option cf
 YF:Nat
 fp:Bool
deriving DecidableEq,Repr,Inhabited
def ua:b8->Option Kd
 |.int k n=>if n=0 then some (.int k)else none
 |.bool t=>if t then none else some .bool
 |.string x=>if x.size=0 then some .str else none
 |.slice none 0 0=>some .sl
 |.pointer none=>some .ptr
 |.map none=>some .mp
 |.nilFunc=>some .fn
 |.nilIface=>some .IS
 |.float .f64 0=>some .fp
 |.complex .f64 0 0=>some .kM
 |_=>none
def xx(P:cJ)(t:cf):Option (List Kd):=match P.info? t with
 |some i=>match i.zero with
  |some z=>z.cells.toList.mapM ua
  |none=>none
 |none=>none
def Kd.zero:Kd->SC
 |.int k=>.p (.int k) (.i 0)
 |.bool=>.p .bool (.b false)
 |.str=>.p .str (.s ByteArray.empty)
 |.sl=>.nil
 |k=>.p k .r0
def arl{v k}(h:ua v=some k)(ρ):k.zero.a_ ρ=mL v/\v.oneCell'=true:=by
 unfold ua at h;split at h
 .split at h
  .rename_i a;subst a;cases h;exact⟨rfl,rfl⟩
  .cases h
 .split at h
  .cases h
  .rename_i a;simp at a;subst a;cases h;exact⟨rfl,rfl⟩
 .rename_i x;split at h
  .have:x=ByteArray.empty:=by
    simp_all
   subst this;cases h;exact⟨rfl,rfl⟩
  .cases h
 all_goals first| (cases h;exact⟨rfl,rfl⟩)|cases h
def xd{P t ks}(h:xx P t=some ks)(ρ):qO P t=some ((ks.map Kd.zero).map (SC.a_ ρ)):=by
 unfold xx at h;unfold qO;split at h
 .rename_i i e;split at h
  .rename_i z f;simp only[e,f];have key:∀{l:List b8}{ks:List Kd},l.mapM ua=some ks->(∀u∈l,u.oneCell'=true)/\(ks.map Kd.zero).map (SC.a_ ρ)=l.map mL:=by
    intro l
    induction l with
    |nil=>simp_all
    |cons u l ih=>
     intro ks h
     cases a:ua u with
     |none=>simp[a]at h
     |some k=>
      cases b:l.mapM ua with
      |none=>simp[a,b]at h
      |some g=>
       simp[a,b]at h;subst h;obtain⟨c,d⟩:=ih b;obtain⟨j,m⟩:=arl a ρ;exact⟨by simpa[m]using c,by simp only[dE,d,j]⟩
   obtain⟨c,d⟩:=key h;rw[bB (by simp only[cI];exact c),d]
  .cases h
 .cases h
def ahV(P:cJ)(t:cf):Nat:=match P.underlying t with
 |some (.struct a)=>a.size
 |_=>0
def I'(P:cJ)(t:cf):Bool:=match P.underlying t with|some .string=>true|_=>false
def Cx(P:cJ)(t:cf):Option cf:=match P.underlying t with|some (.slice e)=>some e|_=>none
def amI(P:cJ)(t:cf):Option cf:=match P.underlying t with|some (.pointer e)=>some e|_=>none
def Uh(P:cJ)(t:cf):Bool:=match P.underlying t with
 |some (.map a _)=>match P.underlying a with
  |some (.int .u64)=>true
  |_=>false
 |_=>false
def MB(P:cJ)(t:cf):Option cf:=match P.underlying t with
 |some (.map b a)=>match P.underlying b,(P.info? a).bind (·.zero)with
  |some (.int .u64),some (.agg _)=>some a
  |_,_=>none
 |_=>none
def Kt(P:cJ)(t:cf):Bool:=match P.underlying t with|some (.float .f64)=>true|_=>false
def aDl{P t}(h:Kt P t=true):P.underlying t=some (.float .f64):=by
 unfold Kt at h;split at h<;>simp_all
def fG(P:cJ)(t:cf):Ty where
 size:=eG P t
 agg:=mE P t
 some:=Bd P t
 info:=oq P t
 pa:=xx P t
 fields:=(List.range (ahV P t)).map (BV P t)
 places:=Hz P t
 elem:=f_ P t
 arr:=mr P t
 app:=jH P t
 dp:=rM P t
 int:=Ha P t
 uJ:=I' P t
 sl:=Cx P t
 ptr:=amI P t
 HA:=Uh P t
 PI:=MB P t
 YF:=EA P t
 fp:=Kt P t
abbrev bY:=List (cf×Ty)
def bY.ok(P:cJ)(T:bY):Prop:=∀t r,List.lookup t T=some r->r=fG P t
def bY.A6{P T}(h:(T.all λx=>decide (x.2=fG P x.1))=true):bY.ok P T:=by
 intro t r a
 induction T with
 |nil=>cases a
 |cons x T ih=>
  simp only[Iv,cF,e_]at h;rw[gb]at a;split at a
  .rename_i d;simp at d;subst d;cases a;exact h.1
  .exact ih h.2 a
def Ty.alT{P t f k}(h:(fG P t).fields[f]?=Option.some (Option.some k)):BV P t f=Option.some k:=by
 simp only[fG,cY,b9]at h;obtain⟨n,a,d⟩:=h;have:=(ek.1 a).2;simp at this;rw[this];exact d
def O0:List L->Option (List L)
 |[x]=>if x.br.natAbs<9007199254740992 then some [.i x.br]else none
 |_=>none
def VW:List L->Option (List L)
 |[x,y]=>some [.c [.sc (.int .i64 x.br),.sc (.int .i64 y.br)]]
 |_=>none
def Yg:List L->Option (List L)
 |[x]=>some [.i x.gI.1]
 |_=>none
def XE:List L->Option (List L)
 |[x]=>some [.i x.gI.2]
 |_=>none
def DY:List L->Option (List L)
 |[x,y]=>if(x.gI.1.natAbs<9007199254740992/\y.gI.1.natAbs<9007199254740992/\(x.gI.1+y.gI.1).natAbs<9007199254740992)/\x.gI.2.natAbs<9007199254740992/\y.gI.2.natAbs<9007199254740992/\(x.gI.2+y.gI.2).natAbs<9007199254740992
  then some [.c [.sc (.int .i64 (x.gI.1+y.gI.1)),.sc (.int .i64 (x.gI.2+y.gI.2))]]else none
 |_=>none
def A2{ρ t F args l}(h:Nd.ev ρ (.call t F args 1 [])=some [l]):F (args.map (At.ev ρ))=some [l]:=by
 simp only[Nd.ev]at h;split at h
 .rename_i b a;split at h
  .cases h;exact a
  .cases h
 .cases h
def ajF{b}{x y l:L}(h:DY [x,y]=some [l]):jZ b .add (.complex .f64 (gA x.gI.1) (gA x.gI.2)) (.complex .f64 (gA y.gI.1) (gA y.gI.2))=some (.complex .f64 (gA l.gI.1) (gA l.gI.2)):=by
 simp only[DY]at h;split at h
 .rename_i a;cases h;simp only[jZ,cSumBits,WS a.1.1 a.1.2.1 a.1.2.2,WS a.2.1 a.2.2.1 a.2.2.2];rfl
 .cases h
end
section
open Go.RowKit
open Classical
structure cG where
 nds:List Nd
 v:SV
 e:iF
 rd:List Nat
def eB:iF:=⟨[],[]⟩
def cG.pure(v:SV):cG:=⟨[],v,eB,[]⟩
def cG.a_(ρ:List L)(r:cG):b_:=⟨r.v.a_ ρ,r.e.a_ ρ,r.rd⟩
abbrev SV.c1(c:SC):SV:=.v (.c c)
def GK(r:Ty)(cs:List SC):Option SV:=
 if r.agg then(if r.size<=cs.length/\r.info=true then some (.v (.agg (cs.take r.size)))else none)
 else match r.some,cs with
  |true,c::_=>some (.c1 c)
  |_,_=>none
def Ra{P t cs v}(ρ)(h:GK (fG P t) cs=some v):mf P t (cs.map (SC.a_ ρ))=some (v.a_ ρ):=by
 unfold GK at h;unfold mf;have a:(fG P t).agg=mE P t:=rfl;have b:(fG P t).size=eG P t:=rfl;have d:(fG P t).info=oq P t:=rfl;have e:(fG P t).some=Bd P t:=rfl;rw[a,b,d,e]at h;split at h
 .split at h
  .cases h;simp_all[SV.a_,bN.a_]
  .cases h
 .rename_i f;rw[bG f];split at h
  .rename_i c l g;cases h;simp only[dE,g];rfl
  .cases h
def jB(m:Nat):List Kd->List SC
 |[]=>[]
 |k::ks=>.p k (.v m)::jB (m+1) ks
def xH(x i:At):Nat->List Kd->List Nd
 |_,[]=>[]
 |j,k::ks=>.rc x i j k::xH x i (j+1) ks
def rH(x:At):Nat->List Kd->List Nd
 |_,[]=>[]
 |j,k::ks=>.cl x j k::rH x (j+1) ks
def SO:∀(ks:List Kd)(m:Nat),(jB m ks).length=ks.length
 |[],_=>rfl
 |_::ks,m=>by simp[jB,SO ks]
def aag{f:PV->PV}{g:Kd->Kd}{ρ x i}:∀{ks}{m j}{r},(∀k∈ks,∀q l,(g k).of q=some l->k.pv l=f q)->(x.ev ρ).bE[(i.ev ρ).br.toNat]?=some r->Sat ρ m (xH x i j (ks.map g))->
 (jB m ks).map (SC.a_ ρ)=(((r.drop j).map f).map C.p).take ks.length/\ks.length<=(r.drop j).length
 |[],_,_,_,_,_,_=>by simp[jB]
 |k ::ks,m,j,r,e,n,h=>by
  obtain⟨⟨ls,a,p⟩,s⟩:=h;simp only[Nd.ev,n]at a;split at a
  .rename_i q t;simp only[b9]at a;obtain⟨l,u,rfl⟩:=a;obtain⟨v,A⟩:=aag (λw b=>e w (je _ b)) n s;have y:r.drop j=q::r.drop (j+1):=by
    obtain⟨c,z⟩:=ek.1 t;rw[<-z];exact uk c
   have o:=p 0 (by simp[Nd.n]);simp only[lL,p8]at o;refine⟨?_,by simp_all⟩;simp only[jB,dE,y,h_,Ix];have d:(jB (m+1) ks).map (SC.a_ ρ)=(((r.drop (j+1)).map f).map C.p).take ks.length:=v;rw[d];simp only[SC.a_,At.ev,o,ik,e k jg q l u]
  .cases a
def OX{f:PV->PV}{g:Kd->Kd}{ρ x}:∀{ks}{m j},(∀k∈ks,∀q l,(g k).of q=some l->k.pv l=f q)->Sat ρ m (rH x j (ks.map g))->
 (jB m ks).map (SC.a_ ρ)=((((x.ev ρ).jS.drop j).map f).map C.p).take ks.length/\ks.length<=((x.ev ρ).jS.drop j).length
 |[],_,_,_,_=>by simp[jB]
 |k ::ks,m,j,e,h=>by
  obtain⟨⟨ls,a,n⟩,o⟩:=h;simp only[Nd.ev]at a;split at a
  .rename_i q p;simp only[b9]at a;obtain⟨l,r,rfl⟩:=a;obtain⟨s,w⟩:=OX (λt b=>e t (je _ b)) o;have u:(x.ev ρ).jS.drop j=q::(x.ev ρ).jS.drop (j+1):=by
    obtain⟨c,v⟩:=ek.1 p;rw[<-v];exact uk c
   have i:=n 0 (by simp[Nd.n]);simp only[lL,p8]at i;refine⟨?_,by simp_all⟩;simp only[jB,dE,u,h_,Ix];have d:(jB (m+1) ks).map (SC.a_ ρ)=((((x.ev ρ).jS.drop (j+1)).map f).map C.p).take ks.length:=s;rw[d];simp only[SC.a_,At.ev,i,ik,e k jg q l r]
  .cases a
def ahy{v k}(h:ua v=some k):k≠ .ie/\k≠ .nl:=by
 unfold ua at h;split at h<;>first
  |(cases h;exact⟨nofun,nofun⟩)
  |(split at h<;>first| (cases h;exact⟨nofun,nofun⟩)|cases h)
  |cases h
def EC{P t ks}(h:xx P t=some ks):∀k∈ks,k≠ .ie/\k≠ .nl:=by
 unfold xx at h;split at h
 .split at h
  .intro k b;obtain⟨i,c,rfl⟩:=kL b;obtain⟨_,d⟩:=oU h;obtain⟨a,_,e⟩:=d i _ (db c);exact ahy e
  .cases h
 .cases h
def VG{P t}{k:Kd}(a:k≠ .ie/\k≠ .nl){q l}(h:k.of q=some l):k.pv l=mg P t q:=by
 unfold mg;split
 .rw[Kd.atK h a.1 a.2];exact Kd.BP h a.1
 .exact Kd.BP h a.1
def ZL{P t}(b:mE P t=true){k:Kd}(a:k≠ .ie/\k≠ .nl){q l}(h:k.w.of q=some l):k.pv l=mg P t q:=by
 unfold mg;rw[bB b];exact Kd.axX h a.1 a.2
def nX(r:Ty)(ks:List Kd)(m:Nat):Option SV:=
 if r.agg then(if ks.length=r.size/\r.info=true then some (.v (.agg (jB m ks)))else none)
 else match r.some,ks with
  |true,[k]=>some (.c1 (.p k (.v m)))
  |_,_=>none
def R0{P t ks m v ρ}{cs:List PV}(h:nX (fG P t) ks m=some v)(a:(jB m ks).map (SC.a_ ρ)=(cs.map C.p).take ks.length)(d:ks.length<=cs.length):
 mf P t (cs.map C.p)=some (v.a_ ρ):=by
 unfold nX at h;unfold mf;have e:(fG P t).agg=mE P t:=rfl;have f:(fG P t).size=eG P t:=rfl;have g:(fG P t).info=oq P t:=rfl;have i:(fG P t).some=Bd P t:=rfl;rw[e,f,g,i]at h;split at h
 .rename_i b;rw[bB b];split at h
  .rename_i c;cases h;rw[bB ⟨by simp_all,c.2⟩,<-c.1,<-a];rfl
  .cases h
 .rename_i b;rw[bG b];split at h
  .rename_i k j;cases h
   cases cs with
   |nil=>simp at d
   |cons q l=>
    simp[jB]at a;simp only[dE,j];rw[<-a];rfl
  .cases h
def Dc(cs:List SC)(off m:Nat):Nat->Nat->Option (Kd×List At)
 |_,0=>none
 |k,c+1=>match cs[off+k*m]? with
  |some (.p b a)=>if c=0 then some (b,[a])else match Dc cs off m (k+1) c with
   |some (d,as)=>if b=d then some (b,a::as)else none
   |none=>none
  |_=>none
def Vf{cs:List SC}{off m:Nat}:∀{c k:Nat}{d:Kd}{as:List At},Dc cs off m k c=some (d,as)->∀(i:Nat)(a:At),as[i]?=some a->cs[off+(k+i)*m]?=some (.p d a)
 |0,_,_,_,h=>by cases h
 |c+1,k,d,as,h=>by
  intro i a b;simp only[Dc]at h;split at h
  .rename_i f o e;split at h
   .cases h
    cases i with
    |zero=>simp at b;subst b;exact e
    |succ i=>simp at b
   .split at h
    .rename_i g j l;split at h
     .rename_i n;subst n;cases h
      cases i with
      |zero=>simp at b;subst b;exact e
      |succ i=>
       have:=Vf l i a (by simpa using b);rw[show k+(i+1)=k+1+i by omega];exact this
     .cases h
    .cases h
  .cases h
def Cb(cs:List SC)(off dm m:Nat)(i:At):Nat->Nat->Option (List Kd×List Nd)
 |_,0=>some ([],[])
 |j,c+1=>match Dc cs (off+j) m 0 dm,Cb cs off dm m i (j+1) c with
  |some (a,as),some (ks,nds)=>some (a::ks,.ix as i::nds)
  |_,_=>none
def Ni{ρ:List L}{cs:List SC}{off dm m:Nat}{i:At}:∀{c j b:Nat}{ks:List Kd}{nds:List Nd},Cb cs off dm m i j c=some (ks,nds)->Sat ρ b nds->
 ks.length=c/\∀d,d<c->∃k a,ks[d]?=some k/\cs[off+j+d+(i.ev ρ).br.toNat*m]?=some (.p k a)/\a.ev ρ=At.ev ρ (.v (b+d))
 |0,_,_,_,_,h,_=>by cases h;simp_all
 |c + 1,j,b,ks,nds,h,g=>by
  simp only[Cb]at h;split at h
  .rename_i l as n f o p;cases h;obtain⟨⟨ls,e,q⟩,r⟩:=g;obtain⟨s,t⟩:=Ni p r;refine⟨by simp[s],λd x=>?_⟩
   cases d with
   |zero=>
    simp only[Nd.ev]at e;split at e
    .rename_i a u;cases e;have:=Vf o _ a u;refine⟨l,a,rfl,by simpa using this,?_⟩;have v:=q 0 (by simp[Nd.n]);simp only[At.ev,v];rfl
    .cases e
   |succ d=>
    obtain⟨k,a,k1,k2,w⟩:=t d om;refine⟨k,a,by simpa using k1,?_,?_⟩
    .rw[show off+j+(d+1)=off+(j+1)+d by omega];exact k2
    .rw[w];simp only[Nd.n];rw[show b+1+d=b+(d+1)by omega]
  .cases h
def TM:∀{ks}{m a:Nat}{k},ks[a]?=some k->(jB m ks)[a]?=some (.p k (.v (m+a)))
 |[],_,_,_,h=>by simp at h
 |k0::ks,m,a,k,h=>by
  cases a with
  |zero=>simp at h;subst h;rfl
  |succ a=>
   have:=TM (m:=m+1) (ks:=ks) (by simpa using h);simp only[jB,C4];rw[this];congr 3;omega
def OB(T:bY)(S:bt)(t:cf)(x:cL):Option cG:=
 match S.arg x,List.lookup t T with
 |some (.v (.c (.ptr n off))),some r=>match List.lookup n S.heap with
  |some (.box cs)=>(GK r (cs.drop off)).map cG.pure
  |_=>none
 |some (.v (.c (.iZ n off dm m i))),some r=>match List.lookup n S.heap with
  |some (.box cs)=>match Cb cs off dm m i 0 (if r.agg then r.size else 1)with
   |some (ks,nds)=>(nX r ks S.nv).map λv=>⟨nds,v,eB,[]⟩
   |none=>none
  |_=>none
 |some (.v (.c (.d' n i j))),some r=>match List.lookup n S.heap,r.pa with
  |some (.row _ x),some (k::ks)=>if(List.lookup 999996 T).isSome=true/\(r.agg=true\/k::ks=[.sl])then
   (if r.agg=true then(nX r (k::ks) S.nv).map λv=>⟨xH x i j ((k::ks).map Kd.w),v,eB,[]⟩
    else(nX r [.nl] S.nv).map λv=>⟨xH x i j [.nl],v,eB,[]⟩)
   else(nX r (k::ks) S.nv).map λv=>⟨xH x i j (k::ks),v,eB,[]⟩
  |_,_=>none
 |some (.v (.c (.ref x j))),some r=>match r.pa with
  |some ks=>if(List.lookup 999996 T).isSome=true/\r.agg=true then(nX r ks S.nv).map λv=>⟨rH x j (ks.map Kd.w),v,eB,[]⟩
   else(nX r ks S.nv).map λv=>⟨rH x j ks,v,eB,[]⟩
  |none=>none
 |_,_=>none
theorem fk(ρ)(S:bt)(n):(S.a_ ρ).heap.lookup n=(List.lookup n S.heap).map (SB.a_ ρ):=dh.rP ρ S.heap n
def RW{P t}{cs:List SC}{off m b}{i:At}{ρ ks v}(hp:nX (fG P t) ks b=some v)(h:ks.length=if(fG P t).agg then(fG P t).size else 1)
 (n:∀d,d<ks.length->∃k a,ks[d]?=some k/\cs[off+d+(i.ev ρ).br.toNat*m]?=some (.p k a)/\a.ev ρ=At.ev ρ (.v (b+d))):mf P t ((cs.map (SC.a_ ρ)).drop (off+(i.ev ρ).br.toNat*m))=some (v.a_ ρ):=by
 have hcell:∀d,d<ks.length->((cs.map (SC.a_ ρ)).drop (off+(i.ev ρ).br.toNat*m))[d]?=((jB b ks).map (SC.a_ ρ))[d]?:=by
  intro d j;obtain⟨k,a,o,e,p⟩:=n d j;rw[kU,cY,cY,TM o,show off+(i.ev ρ).br.toNat*m+d=off+d+(i.ev ρ).br.toNat*m by omega,e];simp only[cg,SC.a_,p]
 have hlen:ks.length<=((cs.map (SC.a_ ρ)).drop (off+(i.ev ρ).br.toNat*m)).length:=by
  rcases Nat.eq_zero_or_pos ks.length with f|f
  .omega
  .obtain⟨k,a,o,e,p⟩:=n (ks.length-1) om;have:=(ek.1 e).1;simp;omega
 unfold nX at hp;unfold mf;have q:(fG P t).agg=mE P t:=rfl;have r:(fG P t).size=eG P t:=rfl;have s:(fG P t).info=oq P t:=rfl;have u:(fG P t).some=Bd P t:=rfl;rw[q,r,s,u]at hp;rw[q,r]at h;split at hp
 .rename_i g;rw[bB g];rw[bB g]at h;split at hp
  .rename_i e;cases hp;rw[bB ⟨om,e.2⟩,<-h];congr 3;apply sE;intro d;rw[jD];split
   .rename_i j;exact hcell d j
   .symm;simp[SO];omega
  .cases hp
 .rename_i g;rw[bG g];split at hp
  .rename_i k w;cases hp;have f:=hcell 0 ch
   cases x:(cs.map (SC.a_ ρ)).drop (off+(i.ev ρ).br.toNat*m)with
   |nil=>simp_all
   |cons c l=>
    rw[x]at f;simp[jB]at f;simp only[w];rw[f];rfl
  .cases hp
section
variable{P:cJ}{T:bY}{S:bt}{ρ:List L}
def ajP(B:bY.ok P T){t x r}(h:OB T S t x=some r)(D:Sat ρ S.nv r.nds):(pG P (S.a_ ρ) t x).map b_.pure=some (r.a_ ρ):=by
 unfold OB at h;split at h
 .rename_i n off row s u;have:=B _ _ u;subst this;split at h
  .rename_i cs z;simp only[b9]at h;obtain⟨v,b,rfl⟩:=h;simp only[pG,bt.cO ρ s,fk,z,cg,SB.a_,SV.a_,bN.a_,SC.a_];rw[<-o2,Ra ρ b];rfl
  .cases h
 .rename_i n off dm m i row s u;have:=B _ _ u;subst this;split at h
  .rename_i cs z;split at h
   .rename_i ks nds M;simp only[b9]at h;obtain⟨v,b,rfl⟩:=h;simp only[pG,bt.cO ρ s,fk,z,cg,SB.a_,SV.a_,bN.a_,SC.a_];obtain⟨f,E⟩:=Ni M D;rw[RW b f (λO Q=>by
     simp_all)]
    rfl
   .cases h
  .cases h
 .rename_i n i j row s u;have:=B _ _ u;subst this;split at h
  .rename_i e y k ks z G;have d:=EC (P:=P) (t:=t) G;have key:∀(c:List Kd)(g:Kd->Kd),(∀k∈c,∀q l,(g k).of q=some l->k.pv l=mg P t q)->c≠ []->∀(v:SV),nX (fG P t) c S.nv=some v->r=⟨xH y i j (c.map g),v,eB,[]⟩->(pG P (S.a_ ρ) t x).map b_.pure=some (r.a_ ρ):=by
    intro c g H N v b w;subst w;simp only[pG,bt.cO ρ s,fk,z,cg,SB.a_,SV.a_,bN.a_,SC.a_];have hrow:∃F,(y.ev ρ).bE[(i.ev ρ).br.toNat]?=some F:=by
     cases c with
     |nil=>exact absurd rfl N
     |cons k0 c=>
      obtain⟨⟨ls,f,_⟩,_⟩:=D;simp only[Nd.ev]at f;split at f
      .simp_all
      .cases f
    obtain⟨F,A⟩:=hrow;obtain⟨f,E⟩:=aag H A D;rw[A];have I:(F.drop j).map (λp=>C.p (mg P t p))=((F.drop j).map (mg P t)).map C.p:=by rw[gW];rfl
    simp only;rw[I,R0 b f (by rw[bA];exact E)];rfl
   split at h
   .rename_i K;split at h
    .rename_i J;simp only[b9]at h;obtain⟨v,b,rfl⟩:=h;exact key (k::ks) Kd.w (λo a q l=>ZL J (d o a)) ch v b rfl
    .rename_i J;simp only[b9]at h;obtain⟨v,b,rfl⟩:=h;refine key [.nl] id (λo a q l h=>?_) ch v b rfl;simp only[kY]at a;subst a;unfold mg;rw[bG (show¬mE P t=true from J)];exact Kd.BP h dc
   .simp only[b9]at h;obtain⟨v,b,rfl⟩:=h;exact key (k::ks) id (λo a q l=>VG (d o a)) ch v b (by rw[Iy])
  .cases h
 .rename_i y j row s u;have:=B _ _ u;subst this;split at h
  .rename_i ks G;have d:=EC (P:=P) (t:=t) G;have key:∀(g:Kd->Kd),(∀k∈ks,∀q l,(g k).of q=some l->k.pv l=mg P t q)->∀(v:SV),nX (fG P t) ks S.nv=some v->r=⟨rH y j (ks.map g),v,eB,[]⟩->(pG P (S.a_ ρ) t x).map b_.pure=some (r.a_ ρ):=by
    intro g H v b w;subst w;simp only[pG,bt.cO ρ s,SV.a_,bN.a_,SC.a_];obtain⟨f,E⟩:=OX H D;have I:((y.ev ρ).jS.drop j).map (λp=>C.p (mg P t p))=(((y.ev ρ).jS.drop j).map (mg P t)).map C.p:=by rw[gW];rfl
    rw[I,R0 b f (by rw[bA];exact E)];rfl
   split at h
   .rename_i K;simp only[b9]at h;obtain⟨v,b,rfl⟩:=h;exact key Kd.w (λo a q l=>ZL K.2 (d o a)) v b rfl
   .simp only[b9]at h;obtain⟨v,b,rfl⟩:=h;exact key id (λo a q l=>VG (d o a)) v b (by rw[Iy])
  .cases h
 .cases h
end
def Lw(T:bY)(S:bt)(t:cf)(x:cL)(f:Nat):Option cG:=
 match S.arg x,List.lookup t T with
 |some (.v (.c c)),some r=>match r.fields[f]? with
  |some (some k)=>match c with
   |.ptr n off=>some (.pure (.c1 (.ptr n (off+k))))
   |.iZ n off dm m i=>some (.pure (.c1 (.iZ n (off+k) dm m i)))
   |.d' n i j=>some (.pure (.c1 (.d' n i (j+k))))
   |.ref x j=>some (.pure (.c1 (.ref x (j+k))))
   |_=>none
  |_=>none
 |_,_=>none
def JJ(T:bY)(S:bt)(t:cf)(x i:cL):Option cG:=
 match S.arg i,S.arg x,List.lookup t T with
 |some (.v (.c (.p (.int _) ai))),some (.v (.c c)),some r=>match c with
  |.ptr n off=>match r.arr with
   |some (dm,e)=>match List.lookup e T with
    |some a=>match ai with
     |.i k=>if 0<=k/\k<dm then some (.pure (.c1 (.ptr n (off+k.toNat*a.size))))else none
     |ai=>some ⟨[.dM ai dm],.c1 (.iZ n off dm a.size ai),eB,[]⟩
    |none=>none
   |none=>none
  |.d' n b j=>match r.arr,ai with
   |some (dm,e),.i k=>match List.lookup e T with
    |some a=>if 0<=k/\k<dm then some (.pure (.c1 (.d' n b (j+k.toNat*a.size))))else none
    |none=>none
   |_,_=>none
  |.ref x j=>match r.arr,ai with
   |some (dm,e),.i k=>match List.lookup e T with
    |some a=>if 0<=k/\k<dm then some (.pure (.c1 (.ref x (j+k.toNat*a.size))))else none
    |none=>none
   |_,_=>none
  |.own n=>match r.elem with
   |some e=>match List.lookup n S.heap,List.lookup e T with
    |some (.row _ x),some a=>some ⟨[.row x ai a.size],.c1 (.d' n ai 0),eB,[]⟩
    |_,_=>none
   |none=>none
  |.sub n lo ln=>match r.elem with
   |some e=>match List.lookup n S.heap,List.lookup e T with
    |some (.row _ x),some a=>some ⟨[.ir x lo ln ai a.size],.c1 (.d' n (.v S.nv) 0),eB,[]⟩
    |_,_=>none
   |none=>none
  |.p .sl x=>match r.elem with
   |some e=>match List.lookup e T with
    |some a=>some ⟨[.row x ai a.size],.c1 (.ref (.v S.nv) 0),eB,[]⟩
    |none=>none
   |none=>none
  |_=>none
 |_,_,_=>none
section
variable{P:cJ}{T:bY}{S:bt}{ρ:List L}
def afv(d:bY.ok P T){t x f r}(h:Lw T S t x f=some r):(rr P (S.a_ ρ) t x f).map b_.pure=some (r.a_ ρ):=by
 unfold Lw at h;split at h
 .rename_i c row e g;have:=d _ _ g;subst this;split at h
  .rename_i k i;have b:=Ty.alT i;have a:=bt.cO ρ e;split at h
   .cases h;simp only[rr,a,b,SV.a_,bN.a_,SC.a_];rfl
   .cases h;simp only[rr,a,b,SV.a_,bN.a_,SC.a_];simp only[cg,b_.pure,cG.a_,cG.pure,SV.a_,bN.a_,SC.a_,Nat.add_right_comm];rfl
   .cases h;simp only[rr,a,b,SV.a_,bN.a_,SC.a_];rfl
   .cases h;simp only[rr,a,b,SV.a_,bN.a_,SC.a_];simp only[cg,b_.pure,cG.a_,cG.pure,SV.a_,bN.a_,SC.a_,List.drop_drop];rfl
   .cases h
  .cases h
 .cases h
def Sat.eD{m a nds}(h:Sat ρ m (a::nds))(q:a.n=1):∃l,a.ev ρ=some [l]/\At.ev ρ (.v m)=l:=by
 obtain⟨⟨ls,d,t⟩,_⟩:=h;have k:=Nd.Oc d;rw[q]at k
 match ls,k with
 |[l],_=>
  refine⟨l,d,?_⟩;have:=t 0 om;simp only[lL]at this;simp only[At.ev,this];rfl
def ayH(y:bY.ok P T){t x i r}(h:JJ T S t x i=some r)(u:Sat ρ S.nv r.nds):(ov P (S.a_ ρ) t x i).map b_.pure=some (r.a_ ρ):=by
 unfold JJ at h;split at h
 .rename_i k A c row B C D;have:=y _ _ D;subst this;have g:(S.a_ ρ).arg i=some (.v (.c (.p (.sc (.int k (A.ev ρ).br))))):=bt.cO ρ B;have j:=bt.cO ρ C;have sz:∀{e:cf}{p:Ty},List.lookup e T=some p->p.size=eG P e:=λm=>by rw[y _ _ m];rfl
  split at h
  .split at h
   .rename_i dm e d;have b:mr P t=some (dm,e):=d;split at h
    .rename_i p m;split at h
     .split at h
      .rename_i q;cases h;simp only[ov,g,j,SV.a_,bN.a_,SC.a_,b,At.ev,L.br];rw[kO (by simpa using q)];simp only[cg,b_.pure,cG.a_,cG.pure,SV.a_,bN.a_,SC.a_,sz m];rfl
      .cases h
     .cases h;obtain⟨⟨ls,a,_⟩,_⟩:=u;simp only[Nd.ev]at a;split at a
      .rename_i q;simp only[ov,g,j,SV.a_,bN.a_,SC.a_,b];rw[kO q];simp only[cg,b_.pure,cG.a_,SV.a_,bN.a_,SC.a_,sz m];rfl
      .cases a
    .cases h
   .cases h
  .split at h
   .rename_i dm e c d;have b:mr P t=some (dm,e):=d;split at h
    .rename_i p m;split at h
     .rename_i q;cases h;simp only[ov,g,j,SV.a_,bN.a_,SC.a_,b,At.ev,L.br];rw[kO (by simpa using q)];simp only[cg,b_.pure,cG.a_,cG.pure,SV.a_,bN.a_,SC.a_,sz m];rfl
     .cases h
    .cases h
   .cases h
  .split at h
   .rename_i dm e c d;have b:mr P t=some (dm,e):=d;split at h
    .rename_i p m;split at h
     .rename_i q;cases h;simp only[ov,g,j,SV.a_,bN.a_,SC.a_,b,At.ev,L.br];rw[kO (by simpa using q)];simp only[cg,b_.pure,cG.a_,cG.pure,SV.a_,bN.a_,SC.a_,sz m,List.drop_drop];rfl
     .cases h
    .cases h
   .cases h
  .split at h
   .rename_i e n;have f:f_ P t=some e:=n;split at h
    .rename_i E F p v m;cases h;obtain⟨l,a,_⟩:=u.eD rfl;simp only[Nd.ev]at a;split at a
     .rename_i s;split at a
      .rename_i z o;split at a
       .rename_i hlen;simp only[ov,g,j,SV.a_,bN.a_,SC.a_,f,bC.elem,fk,v,cg,SB.a_,o];rw[kO s,<-sz m,bB hlen];rfl
       .cases a
      .cases a
     .cases a
    .cases h
   .cases h
  .split at h
   .rename_i e n;have f:f_ P t=some e:=n;split at h
    .rename_i E F p v m;cases h;obtain⟨l,a,w⟩:=u.eD rfl;simp only[Nd.ev]at a;split at a
     .rename_i s;split at a
      .rename_i z o;split at a
       .rename_i hlen;cases a;simp only[ov,g,j,SV.a_,bN.a_,SC.a_,f,bC.elem,fk,v,cg,SB.a_,o];rw[kO s,<-sz m,bB hlen];simp only[cg,b_.pure,cG.a_,SV.a_,bN.a_,SC.a_,w,L.br,eO];rfl
       .cases a
      .cases a
     .cases a
    .cases h
   .cases h
  .split at h
   .rename_i e n;have f:f_ P t=some e:=n;split at h
    .rename_i p m;cases h;obtain⟨l,a,w⟩:=u.eD rfl;simp only[Nd.ev]at a;split at a
     .rename_i s;split at a
      .rename_i z o;split at a
       .rename_i hlen;cases a;simp only[ov,g,j,SV.a_,bN.a_,SC.a_,Kd.pv,f,bC.elem,o];rw[kO s,<-sz m,bB hlen];simp only[cg,b_.pure,cG.a_,SV.a_,bN.a_,SC.a_,w,L.jS,sI];rfl
       .cases a
      .cases a
     .cases a
    .cases h
   .cases h
  .cases h
 .cases h
def bt.sink(S:bt):SC->Option ((Kd×At)×List Nat)
 |.p k x=>some ((k,x),[])
 |.nil=>some ((.sl,.r0),[])
 |.own n=>match List.lookup n S.heap with
  |some (.row _ x)=>some ((.sl,x),[n])
  |_=>none
 |_=>none
def bt.sinks(S:bt):List SC->Option (List (Kd×At)×List Nat)
 |[]=>some ([],[])
 |c::cs=>match S.sink c,S.sinks cs with
  |some (q,a),some (d,h)=>some (q::d,a++h)
  |_,_=>none
def bt.ald{c q a}(h:S.sink c=some (q,a)):(S.a_ ρ).sink (c.a_ ρ)=some (q.1.pv (q.2.ev ρ),a):=by
 cases c with
 |p k x=>cases h;rfl
 |nil=>cases h;rfl
 |own n=>
  simp only[bt.sink]at h;split at h
  .rename_i e x d;cases h;simp only[SC.a_,bC.sink,fk,d,cg,SB.a_];rfl
  .cases h
 |_=>cases h
def bt.OY:∀{cs:List SC}{a:List (Kd×At)}{d:List Nat},S.sinks cs=some (a,d)->(S.a_ ρ).sinks (cs.map (SC.a_ ρ))=some (cZ ρ a,d)
 |[],_,_,h=>by cases h;rfl
 |c::cs,a,d,h=>by
  simp only[bt.sinks]at h;split at h
  .rename_i q k m x t u;cases h;simp only[dE,bC.sinks,bt.ald t,bt.OY u];rfl
  .cases h
def bN.cells:bN->List SC
 |.c x=>[x]
 |.agg xs=>xs
def bN.Bf(x:bN):(x.a_ ρ).cells=x.cells.map (SC.a_ ρ):=by cases x<;>rfl
def IN(T:bY)(S:bt)(t:cf)(x y:cL):Option cG:=
 match S.arg x,S.arg y,List.lookup t T with
 |some (.v (.c (.ptr n off))),some (.v y),some r=>match List.lookup n S.heap with
  |some (.box cs)=>if y.cells.length=r.size/\off+y.cells.length<=cs.length/\r.info=true then some ⟨[],.c1 .dead,⟨[(n,.box (cs.take off++y.cells++cs.drop (off+y.cells.length)))],[]⟩,[]⟩else none
  |_=>none
 |some (.v (.c (.d' n i j))),some (.v y),some r=>match List.lookup n S.heap,S.sinks y.cells with
  |some (.row e x),some (ps,a)=>if ps.length=r.size/\r.info=true/\n∉a then some ⟨[.set x i j ps],.c1 .dead,⟨[(n,.row e (.v S.nv))],a⟩,[]⟩else none
  |_,_=>none
 |_,_,_=>none
def axo(v:bY.ok P T){t x y r}(h:IN T S t x y=some r)(w:Sat ρ S.nv r.nds):(wo P (S.a_ ρ) t x y).map (λe=>(⟨.c .dead,e,[]⟩:b_))=some (r.a_ ρ):=by
 unfold IN at h;split at h
 .rename_i n off g row k m o;have:=v _ _ o;subst this;split at h
  .rename_i cs p;split at h
   .rename_i a;cases h;have b:(S.a_ ρ).arg x=some (.v (.c (.ptr n off))):=bt.cO ρ k;have c:(S.a_ ρ).arg y=some (.v (g.a_ ρ)):=bt.cO ρ m;simp only[wo,b,c,fk,p,cg,SB.a_,bN.Bf,bA];rw[bB ⟨a.1,a.2.1,a.2.2⟩];simp only[cg,cG.a_,iF.a_,dh.a_,dE,iC,SB.a_,dU,mo,o2];rfl
   .cases h
  .cases h
 .rename_i n i j g row k m o;have:=v _ _ o;subst this;split at h
  .rename_i e A ps B p q;split at h
   .rename_i a;cases h;have b:(S.a_ ρ).arg x=some (.v (.c (.d' n (i.ev ρ).br.toNat j))):=bt.cO ρ k;have c:(S.a_ ρ).arg y=some (.v (g.a_ ρ)):=bt.cO ρ m;obtain⟨l,d,z⟩:=w.eD rfl;simp only[Nd.ev]at d;split at d
    .rename_i C s;split at d
     .rename_i f;cases d;simp only[wo,b,c,fk,p,cg,SB.a_,bN.Bf,bt.OY q,s];have u:(cZ ρ ps).length=ps.length:=by simp[cZ]
      rw[u,bB ⟨a.1,f,a.2.1,a.2.2⟩];simp only[cg,cG.a_,iF.a_,dh.a_,dE,iC,SB.a_,z,L.bE];rfl
     .cases d
    .cases d
   .cases h
  .cases h
 .cases h
end
def bt.num(S:bt)(o:Option cL)(d:At):Option At:=match o with
 |none=>some d
 |some o=>match S.arg o with
  |some (.v (.c (.p (.int _) a)))=>some a
  |_=>none
def bt.view(S:bt)(m:Nat):SC->Option (List Nd×At)
 |.p .sl x=>some ([],x)
 |.nil=>some ([],.r0)
 |.own n=>match List.lookup n S.heap with
  |some (.row _ x)=>some ([],x)
  |_=>none
 |.sub n lo ln=>match List.lookup n S.heap with
  |some (.row _ x)=>some ([.vw x lo ln],.v m)
  |_=>none
 |_=>none
def DK(l h v:At):At:=match l,h with
 |.i 0,.i 0=>.i 0
 |_,_=>v
def aAB{ρ l h v}(a:v.ev ρ=.i (((h.ev ρ).br.toNat- (l.ev ρ).br.toNat:Nat):Int)):(DK l h v).ev ρ=.i (((h.ev ρ).br.toNat- (l.ev ρ).br.toNat:Nat):Int):=by
 unfold DK;split
 .rfl
 .exact a
def MY(T:bY)(S:bt)(t:cf)(x:cL)(lo d:Option cL):Option cG:=
 match S.arg x,List.lookup t T,S.num lo (.i 0)with
 |some (.v (.c c)),some r,some l=>match c with
  |.p .str a=>if r.uJ then match S.num d (.v S.nv)with
   |some h=>some ⟨[.nG a,.JK a l h],.c1 (.p .str (.v (S.nv+1))),eB,[]⟩
   |none=>none
   else none
  |.p .sl a=>match r.elem with
   |some e=>match List.lookup e T,S.num d (.v S.nv)with
    |some b,some h=>some ⟨[.len a,.part a l h b.size],.c1 (.p .sl (.v (S.nv+1))),eB,[]⟩
    |_,_=>none
   |none=>none
  |.own n=>match r.elem,List.lookup n S.heap with
   |some e,some (.row _ a)=>match List.lookup e T,S.num d (.v S.nv)with
    |some b,some h=>some ⟨[.len a,.cut a l h b.size],.c1 (.sub n l (DK l h (.v (S.nv+1)))),eB,[]⟩
    |_,_=>none
   |_,_=>none
  |.sub n f ln=>match r.elem,List.lookup n S.heap with
   |some e,some (.row _ a)=>match List.lookup e T,S.num d ln with
    |some b,some h=>some ⟨[.AU a f ln l h b.size],.c1 (.sub n (.v S.nv) (.v (S.nv+1))),eB,[]⟩
    |_,_=>none
   |_,_=>none
  |.nil=>match r.elem with
   |some e=>match List.lookup e T,S.num d (.i 0)with
    |some b,some h=>some ⟨[.cut .r0 l h b.size],.c1 .nil,eB,[]⟩
    |_,_=>none
   |none=>none
  |_=>none
 |_,_,_=>none
def bt.iW(S:bt)(e:cf)(m:Nat):SC->Option (List Nd×At×List Nat)
 |.nil=>some ([],.r0,[])
 |.own n=>match List.lookup n S.heap with
  |some (.row a x)=>if a=e then some ([],x,[n])else none
  |_=>none
 |.sub n (.i 0) ln=>match List.lookup n S.heap with
  |some (.row a x)=>if a=e then some ([.tk x ln],.v m,[n])else none
  |_=>none
 |_=>none
def A3(T:bY)(S:bt)(d:Nat)(t:cf)(s x:cL):Option cG:=
 match S.arg s,S.arg x,(List.lookup t T).bind Ty.elem with
 |some (.v (.c cs)),some (.v (.c f)),some e=>match(List.lookup e T).bind Ty.app,S.iW e S.nv cs with
  |some (n,b),some (nds,a,g)=>match S.view (S.nv+ib nds) f with
   |some (c,a')=>some ⟨nds++c++[.app a a' n b],.c1 (.own d),⟨[(d,.row e (.v (S.nv+ib (nds++c))))],g⟩,[]⟩
   |none=>none
  |_,_=>none
 |_,_,_=>none
def fP(T:bY)(S:bt)(t:cf)(x:cL):Option cG:=
 match S.arg x,List.lookup t T with
 |some (.v (.c (.p .str a))),some r=>if r.uJ then some ⟨[.nG a],.c1 (.p (.int .i64) (.v S.nv)),eB,[]⟩else none
 |some (.v (.c (.p .nl _))),some r=>if r.sl.isSome=true then some ⟨[],.c1 (.p (.int .i64) (.i 0)),eB,[]⟩else none
 |some (.v (.c c)),some r=>match S.view S.nv c,r.sl with
  |some ([],.r0),some _=>some ⟨[],.c1 (.p (.int .i64) (.i 0)),eB,[]⟩
  |some (nds,a),some _=>some ⟨nds++[.len a],.c1 (.p (.int .i64) (.v (S.nv+ib nds))),eB,[]⟩
  |_,_=>none
 |_,_=>none
section
variable{P:cJ}{T:bY}{S:bt}{ρ:List L}
def uI{o d a k}(h:S.num o d=some a)(c:o=none->(d.ev ρ).br=k):(S.a_ ρ).num o k=some (a.ev ρ).br:=by
 cases o with
 |none=>cases h;simp only[bC.num,c rfl]
 |some o=>
  simp only[bt.num]at h;split at h
  .rename_i e a' f;cases h;have b:(S.a_ ρ).arg o=some (.v (.c (.p (.sc (.int e (a.ev ρ).br))))):=bt.cO ρ f;simp only[bC.num,b]
  .cases h
def r_{m c nds a}(h:S.view m c=some (nds,a))(d:Sat ρ m nds):(S.a_ ρ).view (c.a_ ρ)=some (a.ev ρ).bE:=by
 unfold bt.view at h;split at h
 .cases h;rfl
 .cases h;rfl
 .split at h
  .rename_i b;cases h;simp only[SC.a_,bC.view,fk,b,cg,SB.a_]
  .cases h
 .split at h
  .rename_i b;cases h;obtain⟨l,e,f⟩:=d.eD rfl;cases e;simp only[SC.a_,bC.view,fk,b,cg,SB.a_,f,L.bE]
  .cases h
 .cases h
def aam{size rows}(h:pD size rows=true):∀r,rows[0]?=some r->r.length=size:=by
 intro r b
 cases rows with
 |nil=>simp at b
 |cons a l=>simp_all[pD]
def ym{t}(h:I' P t=true):P.underlying t=some .string:=by
 unfold I' at h;split at h
 .assumption
 .cases h
def ze{t e}(h:Cx P t=some e):P.underlying t=some (.slice e):=by
 unfold Cx at h;split at h
 .cases h;assumption
 .cases h
def Wi(a:bY.ok P T){t e}(h:(List.lookup t T).bind Ty.elem=some e):f_ P t=some e:=by
 simp only[jq]at h;obtain⟨r,b,c⟩:=h;have:=a _ _ b;subst this;exact c
def Ce(x:At)(k:Kd):Nat->Nat->List Nd
 |_,0=>[]
 |i,n+1=>.rc x (.i i) 0 k::Ce x k (i+1) n
def Dh(k:Kd):Nat->Nat->List (Kd×At)
 |_,0=>[]
 |m,n+1=>(k,.v m)::Dh k (m+1) n
def Ur{x:At}{k:Kd}:∀{n i:Nat},ib (Ce x k i n)=n
 |0,_=>rfl
 |n+1,i=>by simp only[Ce,ib,Nd.n,Ur];omega
def Q9{x:At}{k:Kd}(b:k≠ .ie){rows:List (List PV)}(c:dS 1 rows)(d:(x.ev ρ).bE=rows):∀{n i m:Nat},i+n=rows.length->Sat ρ m (Ce x k i n)->cZ ρ (Dh k m n)=(rows.drop i).flatten
 |0,i,m,f,_=>by rw[sJ om];rfl
 |n+1,i,m,f,h=>by
  obtain⟨l,a,g⟩:=Sat.eD h rfl;have e:=Q9 b c d (n:=n) (i:=i+1) (m:=m+1) om h.2;have j:rows.drop i=rows[i]'om::rows.drop (i+1):=uk om;have hlen:=c (rows[i]'om) (cV _);simp only[Nd.ev,d]at a
  have a:(match rows[i]? with
   |some r=>match r[0]? with
    |some q=>(k.of q).map ([·])
    |none=>none
   |none=>none)=some [l]:=a
  rw[db (show i<rows.length by omega)]at a;rw[j];generalize rows[i]'om=r at a hlen
  match r,hlen with
  |[q],_=>
   have a:(k.of q).map ([·])=some [l]:=a;simp only[b9]at a;obtain⟨s,o,p⟩:=a;cases p;simp only[Dh,cZ,dE,List.flatten_cons,qU,kZ]at e⊢;rw[e,g,Kd.BP o b]
def J7(T:bY)(S:bt)(t:cf)(x:cL):Option cG:=
 match S.arg x,(List.lookup t T).bind Ty.arr with
 |some (.v (.c (.p .sl a))),some (n,e)=>match(List.lookup e T).bind Ty.pa with
  |some [k]=>if 0<n then some ⟨.part a (.i 0) (.i n) 1::(Ce (.v S.nv) k 0 n++[.lit [Dh k (S.nv+1) n],.row (.v (S.nv+1+n)) (.i 0) n]),.c1 (.ref (.v (S.nv+1+n+1)) 0),eB,[]⟩else none
  |_=>none
 |_,_=>none
def ant(a:bY.ok P T){t e n}(h:(List.lookup t T).bind Ty.arr=some (n,e)):mr P t=some (n,e):=by
 simp only[jq]at h;obtain⟨r,b,c⟩:=h;have:=a _ _ b;subst this;exact c
def ajD(o:bY.ok P T){t x r}(h:J7 T S t x=some r)(p:Sat ρ S.nv r.nds):(y8 P (S.a_ ρ) t x).map b_.pure=some (r.a_ ρ):=by
 unfold J7 at h;split at h
 .rename_i a n e q s;split at h
  .rename_i k u;split at h
   .rename_i v;cases h;have d:(S.a_ ρ).arg x=some (.v (.c (.p (.sl (a.ev ρ).bE)))):=bt.cO ρ q;have f:=ant o s;have g:k≠ .ie:=by
     obtain⟨row,k1,k2⟩:=jq.1 u;have:=o _ _ k1;subst this;exact(EC (P:=P) (t:=e) k2 k ch).1
    obtain⟨I,c,w⟩:=p.eD rfl;obtain⟨y,j⟩:=Sat.app p.2;rw[Ur]at j;obtain⟨J,z,A⟩:=j.eD rfl;obtain⟨B,b,C⟩:=Sat.eD j.2 rfl;simp only[Nd.ev]at c;split at c
    .rename_i c1;cases c;have l:n<=(a.ev ρ).bE.length:=by simp_all[At.ev,L.br]
     have D:(At.ev ρ (.v S.nv)).bE=(a.ev ρ).bE.take n:=by rw[w];rfl
     have hR:dS 1 ((a.ev ρ).bE.take n):=λr E=>kf.1 c1.2.2.2 r (ob E)
     have K:=Q9 g hR D (k:=k) (n:=n) (i:=0) (m:=S.nv+1) (by simp;omega) y;cases z;have F:(At.ev ρ (.v (S.nv+1+n))).bE=[((a.ev ρ).bE.take n).flatten]:=by
      have:At.ev ρ (.v (S.nv+1+n))=_:=A;simp_all[L.bE]
     simp only[Nd.ev,F]at b;have b:(if((a.ev ρ).bE.take n).flatten.length=n then some [L.c ((a.ev ρ).bE.take n).flatten]else none)=some [B]:=b;by_cases G:((a.ev ρ).bE.take n).flatten.length=n
     .rw[bB G]at b;cases oc b;simp only[y8,d,f];rw[bB ⟨v,l,c1.2.2.2⟩];simp only[cg,b_.pure,cG.a_,SV.a_,bN.a_,SC.a_];have H:At.ev ρ (.v (S.nv+1+n+1))=_:=C;rw[H];rfl
     simp_all
    .cases c
   .cases h
  .cases h
 .cases h
def M3(T:bY)(S:bt)(t:cf)(x:cL)(lo:Option cL)(c mx:cL):Option cG:=
 match S.arg x,(List.lookup t T).bind Ty.elem,S.num lo (.i 0),S.arg c,S.arg mx with
 |some (.v (.c (.p .sl a))),some e,some l,some (.v (.c (.p (.int _) h))),some (.v (.c (.p (.int _) m)))=>match List.lookup e T with
  |some b=>some ⟨[.part a h m b.size,.part a l h b.size],.c1 (.p .sl (.v (S.nv+1))),eB,[]⟩
  |none=>none
 |_,_,_,_,_=>none
def aBO(s:bY.ok P T){t x j mx lo r}(h:M3 T S t x lo j mx=some r)(u:Sat ρ S.nv r.nds):(yC P (S.a_ ρ) t x lo j mx).map b_.pure=some (r.a_ ρ):=by
 unfold M3 at h;split at h
 .rename_i a e l k1 v k2 m w k n o p;split at h
  .rename_i A y;have:=s _ _ y;subst this;cases h;obtain⟨B,g,C⟩:=u.eD rfl;obtain⟨D,i,z⟩:=Sat.eD u.2 rfl;simp only[Nd.ev]at g i;have b:(S.a_ ρ).num lo 0=some (l.ev ρ).br:=uI n (λ_=>rfl);have q:(S.a_ ρ).arg x=some (.v (.c (.p (.sl (a.ev ρ).bE)))):=bt.cO ρ w;have c:(S.a_ ρ).arg j=some (.v (.c (.p (.sc (.int k1 (v.ev ρ).br))))):=bt.cO ρ o;have d:(S.a_ ρ).arg mx=some (.v (.c (.p (.sc (.int k2 (m.ev ρ).br))))):=bt.cO ρ p;have f:f_ P t=some e:=Wi s k;split at g
   .rename_i c1;split at i
    .rename_i c3;cases g;cases i;simp only[yC,q,f,b,c,d];rw[bB ⟨c3.1,c3.2.1,c1.2.1,c1.2.2.1,c1.2.2.2⟩];simp only[cg,b_.pure,cG.a_,SV.a_,bN.a_,SC.a_,Kd.pv];have:At.ev ρ (.v (S.nv+1))=_:=z;rw[this];rfl
    .cases i
   .cases g
  .cases h
 .cases h
theorem aCp(F:bY.ok P T){t x lo s r}(h:MY T S t x lo s=some r)(u:Sat ρ S.nv r.nds):(mZ P (S.a_ ρ) t x lo s).map b_.pure=some (r.a_ ρ):=by
 unfold MY at h;split at h
 .rename_i c row l H I C;have:=F _ _ I;subst this;have i:(S.a_ ρ).num lo 0=some (l.ev ρ).br:=uI C (λ_=>rfl);have p:=bt.cO ρ H;have sz:∀{e:cf}{w:Ty},List.lookup e T=some w->w.size=eG P e:=λv=>by rw[F _ _ v];rfl
  split at h
  .rename_i a;split at h
   .rename_i J;split at h
    .rename_i o f;cases h;obtain⟨D,j,q⟩:=u.eD rfl;obtain⟨G,m,y⟩:=Sat.eD u.2 rfl;simp only[Nd.ev]at j m;cases j;have b:(S.a_ ρ).num s ((a.ev ρ).gJ.size:Int)=some (o.ev ρ).br:=uI f (λ_=>by rw[q];rfl);split at m
     .rename_i g;cases m;simp only[mZ,p,SV.a_,bN.a_,SC.a_,Kd.pv,i,b,ym (P:=P) J];rw[kO g];simp only[cg,b_.pure,cG.a_,SV.a_,bN.a_,SC.a_,Kd.pv];have:At.ev ρ (.v (S.nv+1))=_:=y;rw[this];rfl
     .cases m
    .cases h
   .cases h
  .rename_i a;split at h
   .rename_i e k;have d:f_ P t=some e:=k;split at h
    .rename_i w o v f;cases h;obtain⟨D,j,q⟩:=u.eD rfl;obtain⟨G,m,y⟩:=Sat.eD u.2 rfl;simp only[Nd.ev]at j m;cases j;have b:(S.a_ ρ).num s ((a.ev ρ).bE.length:Int)=some (o.ev ρ).br:=uI f (λ_=>by rw[q];rfl);split at m
     .rename_i g;cases m;simp only[mZ,p,SV.a_,bN.a_,SC.a_,Kd.pv,bC.oN,bC.view,cg,d,i,b];rw[kO ⟨g.1,g.2.1⟩];simp only[bC.part];rw[bB ⟨g.2.2.1,by rw[<-sz v,<-kf];exact g.2.2.2⟩];simp only[cg,b_.pure,cG.a_,SV.a_,bN.a_,SC.a_,Kd.pv];have:At.ev ρ (.v (S.nv+1))=_:=y;rw[this];rfl
     .cases m
    .cases h
   .cases h
  .split at h
   .rename_i e K a k B;have d:f_ P t=some e:=k;split at h
    .rename_i w o v f;cases h;obtain⟨D,j,q⟩:=u.eD rfl;obtain⟨G,m,y⟩:=Sat.eD u.2 rfl;simp only[Nd.ev]at j m;cases j;have b:(S.a_ ρ).num s ((a.ev ρ).bE.length:Int)=some (o.ev ρ).br:=uI f (λ_=>by rw[q];rfl);split at m
     .rename_i g;cases m;simp only[mZ,p,SV.a_,bN.a_,SC.a_,bC.oN,bC.view,fk,B,cg,SB.a_,d,i,b];rw[kO ⟨g.1,g.2.1⟩];simp only[bC.part,fk,B,cg,SB.a_];rw[bB ⟨g.2.2.1,by rw[<-sz v];exact aam g.2.2.2⟩];simp only[cg,b_.pure,cG.a_,SV.a_,bN.a_,SC.a_];have M:(DK l o (.v (S.nv+1))).ev ρ=_:=aAB y;rw[M];rfl
     .cases m
    .cases h
   .cases h
  .rename_i n Q ln;split at h
   .rename_i e K a k B;have d:f_ P t=some e:=k;split at h
    .rename_i w o v f;cases h;obtain⟨ls,j,q⟩:=u.one;simp only[Nd.ev]at j;split at j
     .rename_i g;cases j;have z:=q 0 (by simp[Nd.n]);have E:=q 1 (by simp[Nd.n]);simp only[lL,p8,ik]at z;have b:(S.a_ ρ).num s ((ln.ev ρ).br.toNat:Int)=some (o.ev ρ).br:=uI f (λN=>by
       subst N;cases f;omega)
      simp only[mZ,p,SV.a_,bN.a_,SC.a_,bC.oN,d,i,b];rw[kO ⟨g.1,g.2.1⟩];simp only[bC.part,fk,B,cg,SB.a_];rw[bB ⟨g.2.2.1,by rw[<-sz v];exact aam g.2.2.2⟩];simp only[cg,b_.pure,cG.a_,SV.a_,bN.a_,SC.a_,z,E,L.br,eO];rfl
     .cases j
    .cases h
   .cases h
  .split at h
   .rename_i e k;have d:f_ P t=some e:=k;split at h
    .rename_i w o v f;cases h;obtain⟨D,j,q⟩:=u.eD rfl;simp only[Nd.ev]at j;split at j
     .rename_i g;have b:(S.a_ ρ).num s 0=some (o.ev ρ).br:=uI f (λ_=>rfl);have O:(o.ev ρ).br.toNat=0:=by
       have e0:(At.ev ρ .r0).bE=[]:=rfl;simp_all
      simp only[mZ,p,SV.a_,bN.a_,SC.a_,bC.oN,bC.view,cg,d,i,jW];have A:(S.a_ ρ).num s ((0:Nat):Int)=some (o.ev ρ).br:=b;simp only[A];rw[kO ⟨g.1,g.2.1⟩];simp only[bC.part];rw[bB O];rfl
     .cases j
    .cases h
   .cases h
  .cases h
 .cases h
def amg{e m c nds a d}(h:S.iW e m c=some (nds,a,d))(g:Sat ρ m nds):(S.a_ ρ).iW e (c.a_ ρ)=some ((a.ev ρ).bE,d):=by
 unfold bt.iW at h;split at h
 .cases h;rfl
 .split at h
  .simp_all[SC.a_,bC.iW,fk,cg,SB.a_]
  .cases h
 .split at h
  .rename_i i;split at h
   .rename_i b;cases h;obtain⟨l,j,f⟩:=g.eD rfl;cases j;simp only[SC.a_,At.ev,L.br,zK,bC.iW,fk,i,cg,SB.a_,b,if_true];simp only[At.ev]at f;rw[f];rfl
   .cases h
  .cases h
 .cases h
def aqJ(z:bY.ok P T){d t s x r}(h:A3 T S d t s x=some r)(B:Sat ρ S.nv r.nds):(ot P (S.a_ ρ) d t s x).map b_.of=some (r.a_ ρ):=by
 unfold A3 at h;split at h
 .rename_i cs C e o p f;simp only[jq]at f;obtain⟨row,D,f⟩:=f;have:=z _ _ D;subst this;have i:f_ P t=some e:=f;split at h
  .rename_i n b nds a H c j;simp only[jq]at c;obtain⟨A,q,c⟩:=c;have:=z _ _ q;subst this;have g:jH P e=some (n,b):=c;split at h
   .rename_i k a' E;cases h;obtain⟨u,v⟩:=Sat.app (a:=nds++k) (b:=[.app a a' n b]) B;obtain⟨w,y⟩:=Sat.app u;obtain⟨l,m,F⟩:=v.eD rfl;simp only[Nd.ev]at m;split at m
    .rename_i G;cases m;have k1:(S.a_ ρ).arg s=some (.v (.c (cs.a_ ρ))):=bt.cO ρ o;have k2:(S.a_ ρ).arg x=some (.v (.c (C.a_ ρ))):=bt.cO ρ p;simp only[ot,i,g,k1,k2,amg j w,r_ E y];rw[bB G];simp only[cg,b_.of,cG.a_,iF.a_,dh.a_,dE,iC,SB.a_,F,L.bE];rfl
    .cases m
   .cases h
  .cases h
 .cases h
def aCV(n:bY.ok P T){t x r}(h:fP T S t x=some r)(B:Sat ρ S.nv r.nds):(pt P (S.a_ ρ) t x).map b_.pure=some (r.a_ ρ):=by
 unfold fP at h;split at h
 .rename_i a row i j;have:=n _ _ j;subst this;split at h
  .rename_i o;cases h;obtain⟨l,q,s⟩:=B.eD rfl;cases q;have f:=bt.cO ρ i;simp only[pt,f,SV.a_,bN.a_,SC.a_,Kd.pv,ym (P:=P) o];simp only[cg,b_.pure,cG.a_,SV.a_,bN.a_,SC.a_,Kd.pv,s,L.br];rfl
  .cases h
 .rename_i y row i j;have:=n _ _ j;subst this;split at h
  .rename_i o;cases h;have f:(S.a_ ρ).arg x=some (.v (.c (.p .nl))):=bt.cO ρ i;obtain⟨e,D⟩:=sC.1 o;have u:P.underlying t=some (.slice e):=ze D;simp only[pt,f,u];rfl
  .cases h
 .rename_i c row E C i j;have:=n _ _ j;subst this;split at h
  .rename_i e v g;have m:Cx P t=some e:=g;cases h;have f:(S.a_ ρ).arg x=some (.v (.c (c.a_ ρ))):=bt.cO ρ i;have w:=r_ (ρ:=ρ) v trivial;have hres:pt P (S.a_ ρ) t x=some (.sc (.int .i64 ((At.r0).ev ρ).bE.length)):=by
    unfold pt;rw[f];split
    .rename_i b d
     cases c with
     |p k y=>
      cases k with
      |str=>simp_all
      |_=>simp[SC.a_,Kd.pv]at d
     |_=>simp[SC.a_]at d
    .rename_i d
     cases c with
     |p k y=>
      cases k with
      |nl=>simp_all
      |_=>simp[SC.a_,Kd.pv]at d
     |_=>simp[SC.a_]at d
    .simp_all[ko,V.v.injEq,V1.c.injEq,ze]
    simp_all
   rw[hres];rfl
  .rename_i nds a e _ v g;have m:Cx P t=some e:=g;cases h;obtain⟨z,A⟩:=Sat.app B;obtain⟨l,q,s⟩:=A.eD rfl;cases q;have f:(S.a_ ρ).arg x=some (.v (.c (c.a_ ρ))):=bt.cO ρ i;have w:=r_ v z;have hres:pt P (S.a_ ρ) t x=some (.sc (.int .i64 (a.ev ρ).bE.length)):=by
    unfold pt;rw[f];split
    .rename_i b d
     cases c with
     |p k y=>
      cases k with
      |str=>simp_all
      |_=>simp[SC.a_,Kd.pv]at d
     |_=>simp[SC.a_]at d
    .rename_i d
     cases c with
     |p k y=>
      cases k with
      |nl=>simp_all
      |_=>simp[SC.a_,Kd.pv]at d
     |_=>simp[SC.a_]at d
    .simp_all[ko,V.v.injEq,V1.c.injEq,ze]
    simp_all
   rw[hres];simp only[cg,b_.pure,cG.a_,SV.a_,bN.a_,SC.a_,Kd.pv,s,L.br];rfl
  .cases h
 .cases h
end
def bt.gr(S:bt)(x:cL):Option bN:=match S.arg x with|some (.v x)=>some x|_=>none
def bt.Ej(ρ){S:bt}{x y}(h:S.gr x=some y):(S.a_ ρ).gr x=some (y.a_ ρ):=by
 unfold bt.gr at h;split at h
 .rename_i a;cases h;have:=bt.cO ρ a;simp only[bC.gr,this];rfl
 .cases h
def bt.lits(S:bt):List cL->Option (List (List (Kd×At))×List Nat)
 |[]=>some ([],[])
 |x::xs=>match S.gr x with
  |some y=>match S.sinks y.cells,S.lits xs with
   |some (r,a),some (rs,d)=>some (r::rs,a++d)
   |_,_=>none
  |none=>none
def bt.U_{S:bt}{ρ:List L}:∀{xs:List cL}{rows:List (List (Kd×At))}{a:List Nat},S.lits xs=some (rows,a)->(S.a_ ρ).lits xs=some (rows.map (cZ ρ),a)
 |[],_,_,h=>by cases h;rfl
 |x::xs,rows,a,h=>by
  simp only[bt.lits]at h;split at h
  .rename_i y d;split at h
   .rename_i r k rs t m q;cases h;simp only[bC.lits,bt.Ej ρ d,bN.Bf,bt.OY m,bt.U_ q];rfl
   .cases h
  .cases h
def JO(T:bY)(S:bt)(d:Nat)(t:cf)(len:Nat)(parts:List (Nat×cL)):Option cG:=
 match(List.lookup t T).bind Ty.elem with
 |some e=>match(List.lookup e T).bind Ty.app,S.lits (parts.map (·.2))with
  |some (n,_),some (rows,a)=>if parts.map (·.1)=List.range len/\(rows.all (·.length==n))=true/\len*n<=16777216 then some ⟨[.lit rows],.c1 (.own d),⟨[(d,.row e (.v S.nv))],a⟩,[]⟩else none
  |_,_=>none
 |none=>none
def wg:List Kd->Option (List (Kd×At))
 |[]=>some []
 |k::ks=>match k.zero,wg ks with
  |.p k a,some ps=>some ((k,a)::ps)
  |.nil,some ps=>some ((.sl,.r0)::ps)
  |_,_=>none
def vI{ρ:List L}:∀{ks:List Kd}{ps:List (Kd×At)},wg ks=some ps->nC ((ks.map Kd.zero).map (SC.a_ ρ))=some (cZ ρ ps)
 |[],_,h=>by cases h;rfl
 |k::ks,ps,h=>by
  simp only[wg]at h;split at h
  .rename_i e a b c d;cases h;have:=vI (ρ:=ρ) d;unfold nC at this⊢;simp only[dE,pY,c,SC.a_,C.pv,this];rfl
  .rename_i b c d;cases h;have:=vI (ρ:=ρ) d;unfold nC at this⊢;simp only[dE,pY,c,SC.a_,C.pv,this];rfl
  .cases h
def At.same:At->At->Bool
 |.v x,.v y=>x==y
 |.i x,.i y=>x==y
 |.b x,.b y=>x==y
 |.s x,.s y=>decide (x.data.toList=y.data.toList)
 |.r0,.r0=>true
 |_,_=>false
theorem At.nT{a b:At}(h:a.same b=true):a=b:=by
 unfold At.same at h;split at h
 .simp at h;rw[h]
 .simp at h;rw[h]
 .simp at h;rw[h]
 .rename_i x y;cases x;simp_all
 .rfl
 .cases h
def Pu(T:bY)(S:bt)(d:Nat)(t:cf)(l c:cL):Option cG:=
 match(List.lookup t T).bind Ty.elem,S.arg l,S.arg c with
 |some e,some (.v (.c (.p (.int _) a))),some (.v (.c (.p (.int _) a')))=>match List.lookup e T with
  |some f=>match f.app,f.pa.bind wg with
   |some (_,b),some ps=>if a.same a' then some ⟨[.jY a ps b],.c1 (.own d),⟨[(d,.row e (.v S.nv))],[]⟩,[]⟩else none
   |_,_=>none
  |none=>none
 |_,_,_=>none
def Ot(T:bY)(S:bt)(t:cf)(x y:cL):Option cG:=
 match(List.lookup t T).bind Ty.elem,S.arg x,S.arg y with
 |some e,some (.v (.c d)),some (.v (.c f))=>match List.lookup e T,S.view S.nv f with
  |some c,some (nds,a)=>match d with
   |.own n=>match List.lookup n S.heap with
    |some (.row b x)=>if b=e then some ⟨nds++[.HV x a c.size],.c1 (.p (.int .i64) (.v (S.nv+ib nds+1))),⟨[(n,.row e (.v (S.nv+ib nds)))],[]⟩,[]⟩else none
    |_=>none
   |.sub n lo ln=>match List.lookup n S.heap with
    |some (.row b x)=>if b=e then some ⟨nds++[.px x lo ln a c.size],.c1 (.p (.int .i64) (.v (S.nv+ib nds+1))),⟨[(n,.row e (.v (S.nv+ib nds)))],[]⟩,[]⟩else none
    |_=>none
   |_=>none
  |_,_=>none
 |_,_,_=>none
def Oz(T:bY)(S:bt)(s d:cf)(x:cL):Option cG:=
 match S.arg x,List.lookup s T,List.lookup d T with
 |some (.v (.c (.p (.int k0) a))),some rs,some rd=>match rs.some,rd.int with
  |true,some k=>match a with
   |.i n=>some (.pure (.c1 (.p (.int k) (.i (k.wrap n)))))
   |a=>if rs.int=some k/\k0=k then some ⟨[.conv k a],.c1 (.p (.int k) (.v S.nv)),eB,[]⟩else some ⟨[.conv k a],.c1 (.p (.int k) (.v S.nv)),eB,[]⟩
  |_,_=>if rs.some=true/\rd.fp=true then some (.pure (.c1 (.p .fp a)))else none
 |some (.v (.c (.p .fp a))),some rs,some rd=>match rs.some,rd.int with
  |true,some .i64=>some ⟨[.call 3004 O0 [a] 1 []],.c1 (.p (.int .i64) (.v S.nv)),eB,[]⟩
  |_,_=>none
 |some (.v (.c (.p .str a))),some rs,some rd=>if rs.uJ&&rd.uJ then some (.pure (.c1 (.p .str a)))else none
 |some (.v (.c c)),some rs,some rd=>match S.view S.nv c,rs.sl,rd.uJ with
  |some (nds,a),some e,true=>match(List.lookup e T).bind Ty.int with
   |some .u8=>some ⟨nds++[.str a],.c1 (.p .str (.v (S.nv+ib nds))),eB,[]⟩
   |_=>none
  |_,_,_=>none
 |_,_,_=>none
def foldI(op:BinOp)(k:fE)(a b:At):Option At:=match a,b with
 |.i m,.i n=>match eC op k m n with
  |some (.i z)=>some (.i z)
  |some (.b z)=>some (.b z)
  |_=>none
 |_,_=>none
def aps{op k a b z}(h:foldI op k a b=some z)(ρ):eC op k (a.ev ρ).br (b.ev ρ).br=some (z.ev ρ):=by
 unfold foldI at h;split at h
 .split at h
  .rename_i c;cases h;exact c
  .rename_i c;cases h;exact c
  .cases h
 .cases h
def zU:List SC->Option (List (fE×At))
 |[]=>some []
 |.p (.int k) a::cs=>(zU cs).map ((k,a):: ·)
 |_=>none
def FF(m:Nat):List (fE×At)->List (fE×At)->List Nd
 |(k,a)::xs,(_,b)::ys=>.bi .eql k a b:: .bb .and (.v m) (.v (m+1))::FF (m+2) xs ys
 |_,_=>[]
def LB(T:bY)(S:bt)(op:BinOp)(t:cf)(x y:cL):Option cG:=
 match S.arg x,S.arg y with
 |some (.v (.c (.p (.int k) a))),some (.v (.c (.p (.int c) b)))=>if NW op||decide (k=c)then(match foldI op k a b with
  |some z=>some ⟨[],.c1 (.p (if nJ op then .bool else .int k) z),eB,[]⟩
  |none=>some ⟨[.bi op k a b],.c1 (.p (if nJ op then .bool else .int k) (.v S.nv)),eB,[]⟩)else none
 |some (.v (.c (.p .str a))),some (.v (.c (.p .str b)))=>some ⟨[.bs op a b],.c1 (.p (if nJ op then .bool else .str) (.v S.nv)),eB,[]⟩
 |some (.v (.c (.p .bool a))),some (.v (.c (.p .bool b)))=>match List.lookup t T with
  |some r=>if r.dp=true/\op≠ .and then some ⟨[.bb op a b],.c1 (.p .bool (.v S.nv)),eB,[]⟩else none
  |none=>none
 |some (.v (.c (.p .kM a))),some (.v (.c (.p .kM b)))=>if op=.add then some ⟨[.call 3007 DY [a,b] 1 []],.c1 (.p .kM (.v S.nv)),eB,[]⟩else none
 |some (.v (.agg cs)),some (.v (.agg ds))=>match zU cs,zU ds,List.lookup t T with
  |some ((i,a)::xs),some ((j,b)::ys),some r=>if r.YF=xs.length+1/\i::xs.map (·.1)=j::ys.map (·.1)then match op with
   |.eql=>some ⟨.bi .eql i a b::FF S.nv xs ys,.c1 (.p .bool (.v (S.nv+2*xs.length))),eB,[]⟩
   |.neq=>some ⟨.bi .eql i a b::(FF S.nv xs ys++[.not (.v (S.nv+2*xs.length))]),.c1 (.p .bool (.v (S.nv+2*xs.length+1))),eB,[]⟩
   |_=>none
   else none
  |_,_,_=>none
 |_,_=>none
def JR(S:bt)(op:UnOp)(x:cL):Option cG:=
 match S.arg x,op with
 |some (.v (.c (.p .bool a))),.not=>some ⟨[.not a],.c1 (.p .bool (.v S.nv)),eB,[]⟩
 |some (.v (.c (.p (.int k) a))),.neg=>some ⟨[.un .neg k a],.c1 (.p (.int k) (.v S.nv)),eB,[]⟩
 |some (.v (.c (.p (.int k) a))),.xor=>some ⟨[.un .xor k a],.c1 (.p (.int k) (.v S.nv)),eB,[]⟩
 |_,_=>none
def Eb(place:Nat->Option (Nat×Nat))(cells:List SC):List (Nat×List SC)->Option (List SC)
 |[]=>some cells
 |(i,x)::rest=>match place i with
  |none=>none
  |some (off,size)=>if x.length=size/\off+x.length<=cells.length then Eb place (cells.take off++x++cells.drop (off+x.length)) rest else none
def bt.parts(S:bt):List (Nat×cL)->Option (List (Nat×List SC))
 |[]=>some []
 |(i,x)::l=>match S.gr x,S.parts l with
  |some y,some ys=>some ((i,y.cells)::ys)
  |_,_=>none
def La(T:bY)(S:bt)(t:cf)(parts:List (Nat×cL)):Option cG:=
 match List.lookup t T with
 |some r=>match r.pa,r.places,S.parts parts with
  |some ks,some ps,some xs=>(Eb (ps[·]?) (ks.map Kd.zero) xs).map λcs=>.pure (.v (.agg cs))
  |_,_,_=>none
 |none=>none
section
variable{P:cJ}{T:bY}{S:bt}{ρ:List L}
def BE(b:bY.ok P T){t e}(h:(List.lookup t T).bind Ty.elem=some e):f_ P t=some e:=by
 simp only[jq]at h;obtain⟨row,c,a⟩:=h;have:=b _ _ c;subst this;exact a
def avx(b:bY.ok P T){e x}(h:(List.lookup e T).bind Ty.app=some x):jH P e=some x:=by
 simp only[jq]at h;obtain⟨row,c,a⟩:=h;have:=b _ _ c;subst this;exact a
def aij(g:bY.ok P T){d t len parts r}(h:JO T S d t len parts=some r)(j:Sat ρ S.nv r.nds):(yk P (S.a_ ρ) d t len parts).map b_.of=some (r.a_ ρ):=by
 unfold JO at h;split at h
 .rename_i e f;split at h
  .rename_i n b rows p c k;split at h
   .rename_i i;cases h;obtain⟨l,m,o⟩:=j.eD rfl;cases m;simp only[yk,BE g f,avx g c,bt.U_ k];have a:cC n (rows.map (cZ ρ))=true:=by
     simp only[cC,cI,gg];rintro _ ⟨x,q,rfl⟩;simp_all[cZ]
    rw[bB ⟨i.1,a,i.2.2⟩];simp only[cg,b_.of,cG.a_,iF.a_,dh.a_,dE,iC,SB.a_,o,L.bE];rfl
   .cases h
  .cases h
 .cases h
def apt(u:bY.ok P T){d t l c r}(h:Pu T S d t l c=some r)(v:Sat ρ S.nv r.nds):(yR P (S.a_ ρ) d t l c).map b_.of=some (r.a_ ρ):=by
 unfold Pu at h;split at h
 .rename_i e k1 a k2 a' o w x;split at h
  .rename_i B y;have:=u _ _ y;subst this;split at h
   .rename_i n b ps j k;have g:jH P e=some (n,b):=j;simp only[jq]at k;obtain⟨ks,p,z⟩:=k;split at h
    .rename_i i;have:=At.nT i;subst this;cases h;obtain⟨C,m,A⟩:=v.eD rfl;simp only[Nd.ev]at m;split at m
     .rename_i f;cases m;have q:(S.a_ ρ).arg l=some (.v (.c (.p (.sc (.int k1 (a.ev ρ).br))))):=bt.cO ρ w;have s:(S.a_ ρ).arg c=some (.v (.c (.p (.sc (.int k2 (a.ev ρ).br))))):=bt.cO ρ x;simp only[yR,BE u o,q,s,g,xd (P:=P) p ρ,vI z];rw[bB ⟨trivial,f.1,f.2.1,f.2.2⟩];simp only[cg,b_.of,cG.a_,iF.a_,dh.a_,dE,iC,SB.a_,A,L.bE];rfl
     .cases m
    .cases h
   .cases h
  .cases h
 .cases h
def atC(u:bY.ok P T){t x y r}(h:Ot T S t x y=some r)(w:Sat ρ S.nv r.nds):(rF P (S.a_ ρ) t x y).map b_.of=some (r.a_ ρ):=by
 unfold Ot at h;split at h
 .rename_i e A B l C D;have m:(S.a_ ρ).arg x=some (.v (.c (A.a_ ρ))):=bt.cO ρ C;have o:(S.a_ ρ).arg y=some (.v (.c (B.a_ ρ))):=bt.cO ρ D;split at h
  .rename_i G nds a E z;have:=u _ _ E;subst this;split at h
   .rename_i n;split at h
    .rename_i F v p;split at h
     .rename_i f;subst f;cases h;obtain⟨g,i⟩:=Sat.app w;obtain⟨ls,d,q⟩:=i.one;simp only[Nd.ev]at d;split at d
      .rename_i s;cases d;have b:=q 0 (by simp[Nd.n]);have c:=q 1 (by simp[Nd.n]);simp only[lL,p8,ik]at b;simp only[C4,p8,ik]at c;have j:(S.a_ ρ).view (.own n)=some (v.ev ρ).bE:=by simp only[bC.view,fk,p,cg,SB.a_]
       have k:(S.a_ ρ).arg x=some (.v (.c (.own n))):=m;simp only[rF,BE u l,k,o,j,r_ z g,fk,p,cg,SB.a_];rw[bB ⟨trivial,s⟩];simp only[cg,b_.of,cG.a_,iF.a_,dh.a_,dE,iC,SB.a_,b,c,L.bE,SV.a_,bN.a_,SC.a_,Kd.pv,L.br]
      .cases d
     .cases h
    .cases h
   .rename_i n lo ln;split at h
    .rename_i F v p;split at h
     .rename_i f;subst f;cases h;obtain⟨g,i⟩:=Sat.app w;obtain⟨ls,d,q⟩:=i.one;simp only[Nd.ev]at d;split at d
      .rename_i s;cases d;have b:=q 0 (by simp[Nd.n]);have c:=q 1 (by simp[Nd.n]);simp only[lL,p8,ik]at b;simp only[C4,p8,ik]at c;have j:(S.a_ ρ).view (.sub n (lo.ev ρ).br.toNat (ln.ev ρ).br.toNat)=some (((v.ev ρ).bE.drop (lo.ev ρ).br.toNat).take (ln.ev ρ).br.toNat):=by simp only[bC.view,fk,p,cg,SB.a_]
       have k:(S.a_ ρ).arg x=some (.v (.c (.sub n (lo.ev ρ).br.toNat (ln.ev ρ).br.toNat))):=m;simp only[rF,BE u l,k,o,j,r_ z g,fk,p,cg,SB.a_];rw[bB ⟨trivial,s.1,s.2⟩];simp only[cg,b_.of,cG.a_,iF.a_,dh.a_,dE,iC,SB.a_,b,c,L.bE,SV.a_,bN.a_,SC.a_,Kd.pv,L.br]
      .cases d
     .cases h
    .cases h
   .cases h
  .cases h
 .cases h
def z6{t k}(h:Ha P t=some k):P.underlying t=some (.int k):=by
 unfold Ha at h;split at h
 .cases h;assumption
 .cases h
theorem aee(o:bY.ok P T){s d x r}(h:Oz T S s d x=some r)(D:Sat ρ S.nv r.nds):(lD P (S.a_ ρ) s d x).map b_.pure=some (r.a_ ρ):=by
 unfold Oz at h;split at h
 .rename_i k0 a rs rd u g i;have:=o _ _ g;subst this;have:=o _ _ i;subst this;have j:(S.a_ ρ).arg x=some (.v (.c (.p (.sc (.int k0 (a.ev ρ).br))))):=bt.cO ρ u;split at h
  .rename_i k hsome E;obtain⟨ds,q⟩:=sC.1 (show(P.underlying s).isSome=true from hsome);have A:=z6 (P:=P) E;have v:lD P (S.a_ ρ) s d x=some (.sc (.int k (k.wrap (a.ev ρ).br))):=by simp_all[lD]
   rw[v];split at h
   .cases h;rfl
   .have O:r=⟨[.conv k a],.c1 (.p (.int k) (.v S.nv)),eB,[]⟩:=by simp_all
    subst O;obtain⟨l,m,B⟩:=D.eD rfl;cases m;simp only[cg,b_.pure,cG.a_,SV.a_,bN.a_,SC.a_,Kd.pv,B,L.br];rfl
  .split at h
   .rename_i w;cases h;obtain⟨ds,q⟩:=sC.1 (show(P.underlying s).isSome=true from w.1);have Q:=aDl (P:=P) (t:=d) w.2;simp only[lD,j,q,Q,cg];rfl
   .cases h
 .rename_i a rs rd u g i;have:=o _ _ g;subst this;have:=o _ _ i;subst this;have j:(S.a_ ρ).arg x=some (.v (.c (.p (.sc (.float .f64 (gA (a.ev ρ).br)))))):=bt.cO ρ u;split at h
  .rename_i hsome E;cases h;obtain⟨ds,q⟩:=sC.1 (show(P.underlying s).isSome=true from hsome);have A:=z6 (P:=P) (t:=d) E;obtain⟨l,m,B⟩:=D.eD rfl;have m:=A2 m;simp only[dE,iC,O0]at m;split at m
   .rename_i R;cases m;simp only[lD,j,q,A,aej R,cg];simp only[b_.pure,cG.a_,SV.a_,bN.a_,SC.a_,Kd.pv,B,L.br];rfl
   .cases m
  .cases h
 .rename_i a rs rd u g i;have:=o _ _ g;subst this;have:=o _ _ i;subst this;have j:(S.a_ ρ).arg x=some (.v (.c (.p (.sc (.string (a.ev ρ).gJ))))):=bt.cO ρ u;split at h
  .rename_i w;cases h;simp only[cF]at w;simp only[lD,j,ym (P:=P) w.1,ym (P:=P) w.2];rfl
  .cases h
 .rename_i c rs rd K M N u g i;have:=o _ _ g;subst this;have:=o _ _ i;subst this;split at h
  .rename_i nds a e U F W;split at h
   .rename_i C;cases h;simp only[jq]at C;obtain⟨row,X,C⟩:=C;have:=o _ _ X;subst this;obtain⟨G,H⟩:=Sat.app D;obtain⟨l,m,B⟩:=H.eD rfl;simp only[Nd.ev,b9]at m;obtain⟨bs,I,m⟩:=m;cases m;have j:(S.a_ ρ).arg x=some (.v (.c (c.a_ ρ))):=bt.cO ρ u;have J:=r_ U G;have v:lD P (S.a_ ρ) s d x=some (.sc (.string (strOfNums bs))):=by
     unfold lD;rw[j];split
     .rename_i k n f
      cases c with
      |p z y=>
       cases z with
       |int z=>simp_all
       |_=>simp[SC.a_,Kd.pv]at f
      |_=>simp[SC.a_]at f
     .rename_i k0 b f
      cases c with
      |p z y=>
       cases z with
       |fp=>simp_all
       |_=>simp[SC.a_,Kd.pv]at f
      |_=>simp[SC.a_]at f
     .rename_i b f
      cases c with
      |p z y=>
       cases z with
       |str=>simp_all
       |_=>simp[SC.a_,Kd.pv]at f
      |_=>simp[SC.a_]at f
     .rename_i Y _ _ _ f;simp only[ko,V.v.injEq,V1.c.injEq]at f;subst f;rw[J,ze (P:=P) F,ym (P:=P) W];simp only[z6 (P:=P) C,I]
     simp_all
    rw[v];simp only[cg,b_.pure,cG.a_,SV.a_,bN.a_,SC.a_,Kd.pv,B,L.gJ];rfl
   .cases h
  .cases h
 .cases h
def Ze{op k e a b l}(f)(c:(NW op||decide (k=e))=true)(h:eC op k a b=some l):jZ f op (.int k a) (.int e b)=some (if nJ op then .bool l.eF else .int k l.br):=by
 cases op<;>simp[NW]at c<;>simp only[eC]at h<;>first
  |(subst c;cases h;simp[jZ,nJ,bitsOf,L.br,L.eF];done)
  |(subst c;split at h; (rename_i d;cases h;simp only[jZ,nJ,true_and];rw[kO d];rfl);cases h)
  |(split at h; (rename_i d;cases h;simp only[jZ,nJ];rw[kO d];rfl);cases h)
def aCN{op a b l}(c)(h:xO op a b=some l):jZ c op (.string a) (.string b)=some (if nJ op then .bool l.eF else .string l.gJ):=by
 cases op<;>simp only[xO]at h<;>first
  |(cases h;rfl)
  |(split at h; (rename_i d;cases h;simp only[jZ,nJ];rw[kO d];rfl);cases h)
  |cases h
def azy{op a b l}(h:oj op a b=some l)(c:op≠ .and):jZ true op (.bool a) (.bool b)=some (.bool l.eF):=by
 cases op<;>simp only[oj]at h<;>first|exact absurd rfl c| (cases h;rfl)|cases h
def Bu{ρ j x}(a:∀i,i<1->ρ[j+i]?=[x][i]?):(At.v j).ev ρ=x:=by
 simp_all [At.ev,ik]
def LG{ρ r}:∀{xs ys}{m}{t},xs.length=ys.length->(At.v m).ev ρ=.b t->Sat ρ (m+1) (FF m xs ys++r)->
 (At.v (m+2*xs.length)).ev ρ=.b (qe t (xs.map λx=>(x.1,(x.2.ev ρ).br)) (ys.map λx=>(x.1,(x.2.ev ρ).br)))/\Sat ρ (m+2*xs.length+1) r
 |[],[],m,t,_,c,d=>⟨c,d⟩
 |(k,a)::xs,(j,b)::ys,m,t,i,c,d=>by
  obtain⟨⟨s,l,n⟩,⟨u,o,p⟩,q⟩:=d;cases l;have e0:=Bu n;cases o;have f:=Bu p;rw[c,e0]at f;obtain⟨g,h⟩:=LG (m:=m+2) (by simpa using i) f q;have e:m+2+2*xs.length=m+2*((k,a)::xs).length:=by simp;omega
  rw[e]at g h;exact⟨g,h⟩
def MA{ρ:List L}:∀{cs:List SC}{xs:List (fE×At)},zU cs=some xs->u_ (cs.map (SC.a_ ρ))=some (xs.map λx=>(x.1,(x.2.ev ρ).br))
 |[],xs,h=>by cases h;rfl
 |c::cs,xs,h=>by
  unfold zU at h;split at h
  .cases ‹_::_=[]›
  .rename_i k a b d;cases d;simp only[b9]at h;obtain⟨ys,e,rfl⟩:=h;show(u_ (List.map (SC.a_ ρ) cs)).map _=_;rw[MA e];rfl
  .cases h
def atm(G:bY.ok P T){op t x y K r Sp d}(h:LB T S op t x y=some r)(m:Sat ρ S.nv r.nds):cr P Sp (S.a_ ρ) d (.binOp op t x y K)=some (r.a_ ρ):=by
 unfold LB at h;split at h
 .rename_i k a M b n o;split at h
  .rename_i u;have c:(S.a_ ρ).arg x=some (.v (.c (.p (.sc (.int k (a.ev ρ).br))))):=bt.cO ρ n;have f:(S.a_ ρ).arg y=some (.v (.c (.p (.sc (.int M (b.ev ρ).br))))):=bt.cO ρ o;split at h
   .rename_i z N;cases h;simp only[cr,c,f,Ze (rM P t) u (aps N ρ),cg];cases nJ op<;>rfl
   .cases h;obtain⟨l,g,p⟩:=m.eD rfl;simp only[Nd.ev,b9]at g;obtain⟨H,g,v⟩:=g;cases v;simp only[cr,c,f,Ze (rM P t) u g,cg];simp only[b_.pure,cG.a_,SV.a_,bN.a_,SC.a_,p];cases nJ op<;>rfl
  .cases h
 .rename_i a b n o;cases h;obtain⟨l,g,p⟩:=m.eD rfl;simp only[Nd.ev,b9]at g;obtain⟨H,g,v⟩:=g;cases v;have c:(S.a_ ρ).arg x=some (.v (.c (.p (.sc (.string (a.ev ρ).gJ))))):=bt.cO ρ n;have f:(S.a_ ρ).arg y=some (.v (.c (.p (.sc (.string (b.ev ρ).gJ))))):=bt.cO ρ o;simp only[cr,c,f,aCN (rM P t) g,cg];simp only[b_.pure,cG.a_,SV.a_,bN.a_,SC.a_,p];cases nJ op<;>rfl
 .rename_i a b n o;split at h
  .rename_i row w;have:=G _ _ w;subst this;split at h
   .rename_i s;obtain⟨s,A⟩:=s;have B:rM P t=true:=s;cases h;obtain⟨l,g,p⟩:=m.eD rfl;simp only[Nd.ev,b9]at g;obtain⟨H,g,v⟩:=g;cases v;have c:(S.a_ ρ).arg x=some (.v (.c (.p (.sc (.bool (a.ev ρ).eF))))):=bt.cO ρ n;have f:(S.a_ ρ).arg y=some (.v (.c (.p (.sc (.bool (b.ev ρ).eF))))):=bt.cO ρ o;simp only[cr,c,f,B,azy g A,cg];simp only[b_.pure,cG.a_,SV.a_,bN.a_,SC.a_,p];rfl
   .cases h
  .cases h
 .rename_i a b n o;split at h
  .rename_i O;subst O;cases h;obtain⟨l,g,p⟩:=m.eD rfl;have g:=A2 g;have c:(S.a_ ρ).arg x=some (.v (.c (.p (.sc (.complex .f64 (gA (a.ev ρ).gI.1) (gA (a.ev ρ).gI.2)))))):=bt.cO ρ n;have f:(S.a_ ρ).arg y=some (.v (.c (.p (.sc (.complex .f64 (gA (b.ev ρ).gI.1) (gA (b.ev ρ).gI.2)))))):=bt.cO ρ o;simp only[cr,c,f,ajF g,cg];simp only[b_.pure,cG.a_,SV.a_,bN.a_,SC.a_,Kd.pv,p];rfl
  .cases h
 .rename_i cs ds n o;split at h
  .rename_i i a xs j b ys row C D w;have:=G _ _ w;subst this;split at h
   .rename_i s;obtain⟨s,u⟩:=s;have I:xs.length=ys.length:=by have:=cW List.length u;simpa using this
    have c:(S.a_ ρ).arg x=some (.v (.agg (cs.map (SC.a_ ρ)))):=bt.cO ρ n;have f:(S.a_ ρ).arg y=some (.v (.agg (ds.map (SC.a_ ρ)))):=bt.cO ρ o
    have q:Ed P op t (cs.map (SC.a_ ρ)) (ds.map (SC.a_ ρ))=match op with
     |.eql=>some (qe ((a.ev ρ).br==(b.ev ρ).br) (xs.map λx=>(x.1,(x.2.ev ρ).br)) (ys.map λx=>(x.1,(x.2.ev ρ).br)))
     |.neq=>some (!qe ((a.ev ρ).br==(b.ev ρ).br) (xs.map λx=>(x.1,(x.2.ev ρ).br)) (ys.map λx=>(x.1,(x.2.ev ρ).br)))
     |_=>none:=by
     unfold Ed;rw[MA C,MA D];simp only[dE,bA,gW];rw[bB ⟨s,u⟩];cases op<;>rfl
    split at h
    .cases h;obtain⟨⟨Q,E,F⟩,m⟩:=m;cases E;obtain⟨e,_⟩:=LG (r:=[]) I (Bu F) (by rw[gd];exact m);simp only[cr,c,f,q,cg,b_.pure,cG.a_,SV.a_,bN.a_,SC.a_,e,Kd.pv];rfl
    .cases h;obtain⟨⟨Q,E,F⟩,m⟩:=m;cases E;obtain⟨e,⟨l,g,p⟩,_⟩:=LG I (Bu F) m;cases g;have J:=Bu p;rw[e]at J;simp only[cr,c,f,q,cg,b_.pure,cG.a_,SV.a_,bN.a_,SC.a_,J,Kd.pv];rfl
    .cases h
   .cases h
  .cases h
 .cases h
def aoa{op t x r Sp d}(h:JR S op x=some r)(g:Sat ρ S.nv r.nds):cr P Sp (S.a_ ρ) d (.unOp op t x)=some (r.a_ ρ):=by
 unfold JR at h;split at h
 .rename_i a c;cases h;obtain⟨l,e,f⟩:=g.eD rfl;cases e;have b:(S.a_ ρ).arg x=some (.v (.c (.p (.sc (.bool (a.ev ρ).eF))))):=bt.cO ρ c;simp only[cr,b,yW,cg,b_.pure,cG.a_,SV.a_,bN.a_,SC.a_,Kd.pv,f];rfl
 .rename_i k a c;cases h;obtain⟨l,e,f⟩:=g.eD rfl;cases e;have b:(S.a_ ρ).arg x=some (.v (.c (.p (.sc (.int k (a.ev ρ).br))))):=bt.cO ρ c;simp only[cr,b,yW,cg,b_.pure,cG.a_,SV.a_,bN.a_,SC.a_,Kd.pv,f];rfl
 .rename_i k a c;cases h;obtain⟨l,e,f⟩:=g.eD rfl;cases e;have b:(S.a_ ρ).arg x=some (.v (.c (.p (.sc (.int k (a.ev ρ).br))))):=bt.cO ρ c;simp only[cr,b,yW,cg,b_.pure,cG.a_,SV.a_,bN.a_,SC.a_,Kd.pv,f,bitsOf];rfl
 .cases h
def SN(place:Nat->Option (Nat×Nat)):∀{xs:List (Nat×List SC)}{cells a:List SC},Eb place cells xs=some a->vQ place (cells.map (SC.a_ ρ)) (xs.map λx=>(x.1,x.2.map (SC.a_ ρ)))=some (a.map (SC.a_ ρ))
 |[],_,_,h=>by cases h;rfl
 |(i,x)::rest,cells,a,h=>by
  simp only[Eb]at h;split at h
  .cases h
  .rename_i off size hp;split at h
   .rename_i b;simp only[dE,vQ,hp];rw[bB (by simpa using b)];have:=SN place h;simp_all
   .cases h
def Xp:∀{l:List (Nat×cL)}{xs:List (Nat×List SC)},S.parts l=some xs->l.mapM (λx=>((S.a_ ρ).gr x.2).map λy=>(x.1,y.cells))=some (xs.map λx=>(x.1,x.2.map (SC.a_ ρ)))
 |[],_,h=>by cases h;rfl
 |(i,x)::l,xs,h=>by
  simp only[bt.parts]at h;split at h
  .rename_i y ys a b;cases h;simp only[pY,bt.Ej ρ a,Xp b,cg,bN.Bf];rfl
  .cases h
def auP(f:bY.ok P T){t parts r}(h:La T S t parts.toList=some r):(yx P (S.a_ ρ) t parts).map b_.pure=some (r.a_ ρ):=by
 unfold La at h;split at h
 .rename_i row g;have:=f _ _ g;subst this;split at h
  .rename_i ks ps xs b c d;simp only[b9]at h;obtain⟨cs,e,rfl⟩:=h;have a:Hz P t=some ps:=c;simp only[yx,xd (P:=P) b ρ,a,Xp d,SN (ρ:=ρ) (ps[·]?) e];rfl
  .cases h
 .cases h
end
structure bw where
 f:FuncId
 params:List bN
 H:List SB
 iM:Nat
 kF:Nat
 res:SV
 out:dh
 F:List L->Option (List L)
 tag:Nat:=0
def bw.ok(P:cJ)(s:bw):Prop:=∀ls o,ls.length=s.iM->s.F ls=some o->o.length=s.kF->
 eX P s.f (s.params.map (bN.a_ ls)) (s.H.map (SB.a_ ls)) (s.res.a_ (ls++o)) (s.out.a_ (ls++o))
def At.sub(σ:List At):At->At
 |.v n=>(σ[n]?).getD (.b false)
 |x=>x
def At.yM{σ ρ}(x:At):(x.sub σ).ev ρ=x.ev (σ.map (At.ev ρ)):=by
 cases x with
 |v n=>
  simp only[At.sub,At.ev,cY]
  cases σ[n]? with
  |none=>rfl
  |some y=>rfl
 |_=>rfl
def SC.put(σ:List At)(ρ:Nat->Nat):SC->SC
 |.p k x=>.p k (x.sub σ)
 |.nil=>.nil
 |.own n=>.own (ρ n)
 |.sub n lo ln=>.sub (ρ n) (lo.sub σ) (ln.sub σ)
 |.ptr n off=>.ptr (ρ n) off
 |.iZ n off c m i=>.iZ (ρ n) off c m (i.sub σ)
 |.d' n i j=>.d' (ρ n) (i.sub σ) j
 |.ref x j=>.ref (x.sub σ) j
 |.fn f eS=>.fn f (eS.map ρ)
 |.mp n=>.mp (ρ n)
 |.dead=>.dead
def bN.fW(f:SC->SC):bN->bN
 |.c y=>.c (f y)
 |.agg ys=>.agg (ys.map f)
def SV.fW(f:SC->SC):SV->SV
 |.v x=>.v (x.fW f)
 |.bM xs=>.bM (xs.map (bN.fW f))
def SB.fW(f:SC->SC)(g:At->At):SB->SB
 |.box cs=>.box (cs.map f)
 |.row e x=>.row e (g x)
 |.map x=>.map (g x)
def SC.NP{σ ρ a}(c:SC):(c.put σ a).a_ ρ=(c.a_ (σ.map (At.ev ρ))).eh a:=by
 cases c<;>simp only[SC.put,SC.a_,C.eh,At.yM]
def bN.yE{σ ρ a}(x:bN):(x.fW (SC.put σ a)).a_ ρ=(x.a_ (σ.map (At.ev ρ))).on (C.eh a):=by
 cases x with
 |c c=>simp only[bN.fW,bN.a_,V1.on,SC.NP]
 |agg cs=>simp only[bN.fW,bN.a_,V1.on,gW];congr 1;apply ia;intro c _;exact SC.NP c
def SV.yE{σ ρ a}(x:SV):(x.fW (SC.put σ a)).a_ ρ=(x.a_ (σ.map (At.ev ρ))).on (C.eh a):=by
 cases x with
 |v x=>simp only[SV.fW,SV.a_,V.on,bN.yE]
 |bM xs=>simp only[SV.fW,SV.a_,V.on,gW];congr 1;apply ia;intro c _;exact bN.yE c
def SB.yE{σ ρ a}(x:SB):(x.fW (SC.put σ a) (At.sub σ)).a_ ρ=(x.a_ (σ.map (At.ev ρ))).on (C.eh a):=by
 cases x with
 |box cs=>simp only[SB.fW,SB.a_,fv.on,gW];congr 1;apply ia;intro c _;exact SC.NP c
 |row e x=>simp only[SB.fW,SB.a_,fv.on,At.yM]
 |map x=>simp only[SB.fW,SB.a_,fv.on,At.yM]
def SC.bare:SC->Bool
 |.p .sl _=>false
 |.p .ie _=>false
 |.ref _ _=>false
 |_=>true
def bN.bare:bN->Bool
 |.c x=>x.bare
 |.agg xs=>xs.all SC.bare
def SV.bare:SV->Bool
 |.v x=>x.bare
 |.bM xs=>xs.all bN.bare
def SB.bare(T:bY):SB->Bool
 |.box cs=>cs.all SC.bare
 |.row _ _=>false
 |.map _=>false
theorem SC.Aj{ρ}{c:SC}(h:c.bare=true):(c.a_ ρ).bare=true:=by
 cases c with
 |p k x=>cases k<;>first|rfl|cases h
 |ref=>cases h
 |_=>rfl
structure Acc where
 σ:List (Option At)
 ι:List (Option Nat)
 ei:List Nat
def Acc.atom(a:Acc)(i:Nat)(x:At):Acc:={a with σ:=a.σ.set i (some x)}
def Acc.name(a:Acc)(m n:Nat):Acc:={a with ι:=a.ι.set m (some n)}
def WH(S:bt)(a:Acc):SC->SC->Acc
 |.p _ (.v i),.p _ x=>a.atom i x
 |.p _ (.v i),.nil=>a.atom i .r0
 |.p _ (.v i),.own n=>match List.lookup n S.heap with
  |some (.row _ x)=> {a.atom i x with ei:=if a.ei.contains n then a.ei else n::a.ei}
  |_=>a
 |.own m,.own n=>a.name m n
 |.sub m (.v i) (.v j),.sub n lo ln=>((a.name m n).atom i lo).atom j ln
 |.ptr m _,.ptr n _=>a.name m n
 |.fn _ b,.fn _ c=>(b.zip c).foldl (λa x=>a.name x.1 x.2) a
 |.mp m,.mp n=>a.name m n
 |.ref (.v i) _,.ref x _=>a.atom i x
 |_,_=>a
def JD(S:bt):Acc->List SC->List SC->Acc
 |a,d::b,c::cs=>JD S (WH S a d c) b cs
 |a,_,_=>a
def aoE(S:bt)(a:Acc):bN->bN->Acc
 |.c d,.c c=>WH S a d c
 |.agg b,.agg cs=>JD S a b cs
 |_,_=>a
def Oj(S:bt):Acc->List bN->List bN->Acc
 |a,d::b,c::cs=>Oj S (aoE S a d c) b cs
 |a,_,_=>a
def wc(S:bt):Acc->Nat->List SB->Acc
 |a,_,[]=>a
 |a,m,b::bs=>match a.ι[m]? with
  |some (some n)=>match b,List.lookup n S.heap with
   |.box c,some (.box cs)=>wc S (JD S a c cs) (m+1) bs
   |.row _ (.v i),some (.row _ x)=>wc S (a.atom i x) (m+1) bs
   |.map (.v i),some (.map x)=>wc S (a.atom i x) (m+1) bs
   |_,_=>wc S a (m+1) bs
  |_=>wc S a (m+1) bs
def FQ(S:bt)(σ:List At)(ι ei:List Nat):SC->SC->Bool
 |.dead,_=>true
 |.p k x,.p d y=>decide (k=d)&& (x.sub σ).same y
 |.p .sl x,.nil=>(x.sub σ).same .r0
 |.p .sl x,.own n=>match List.lookup n S.heap with
  |some (.row _ y)=>(x.sub σ).same y&&ei.contains n
  |_=>false
 |.nil,.nil=>true
 |.own m,.own n=>ι[m]?==some n
 |.sub m lo ln,.sub n b c=>ι[m]?==some n&& (lo.sub σ).same b&& (ln.sub σ).same c
 |.ptr m off,.ptr n a=>ι[m]?==some n&&off==a
 |.ref x j,.ref y e=>(x.sub σ).same y&&j==e
 |.fn f g,.fn h i=>f==h&&g.map (λm=>ι[m]?)==i.map some
 |.mp m,.mp n=>ι[m]?==some n
 |_,_=>false
def Cp(S:bt)(σ:List At)(ι ei:List Nat):List SC->List SC->Bool
 |[],[]=>true
 |c'::a,c::cs=>FQ S σ ι ei c' c&&Cp S σ ι ei a cs
 |_,_=>false
def Q4(S:bt)(σ:List At)(ι ei:List Nat):bN->bN->Bool
 |.c b,.c c=>FQ S σ ι ei b c
 |.agg a,.agg cs=>Cp S σ ι ei a cs
 |_,_=>false
def Bx(S:bt)(σ:List At)(ι ei:List Nat):List bN->List bN->Bool
 |[],[]=>true
 |c'::a,c::cs=>Q4 S σ ι ei c' c&&Bx S σ ι ei a cs
 |_,_=>false
def KT(S:bt)(σ:List At)(ι ei:List Nat):SB->SB->Bool
 |.box a,.box cs=>Cp S σ ι ei a cs
 |.row e x,.row b y=>e==b&& (x.sub σ).same y
 |.map x,.map y=>(x.sub σ).same y
 |_,_=>false
def Ab(S:bt)(σ:List At)(ι ei:List Nat):List Nat->List SB->Bool
 |[],[]=>true
 |n::a,c::bs=>(match List.lookup n S.heap with|some b=>KT S σ ι ei c b|none=>false)&&Ab S σ ι ei a bs
 |_,_=>false
section
variable{S:bt}{ρ:List L}{σ:List At}{ι ei:List Nat}
def Gg{m n}(h:(ι[m]?==some n)=true):(ι[m]?).getD 0=n/\m<ι.length:=by
 grind
def aaC{i c}(h:FQ S σ ι ei i c=true):tb (S.a_ ρ) ι ei (i.a_ (σ.map (At.ev ρ))) (c.a_ ρ):=by
 have same:∀{x y:At},(x.sub σ).same y=true->x.ev (σ.map (At.ev ρ))=y.ev ρ:=λl=>by rw[<-At.yM,At.nT l]
 unfold FQ at h;split at h
 .trivial
 .simp only[cF,e_]at h;obtain⟨rfl,a⟩:=h;exact .inl (by grind[SC.a_])
 .exact .inr ⟨[],by simp only[Kd.pv,same h];rfl,rfl,λk j=>by simp[SC.a_,C.names]at j⟩
 .split at h
  .rename_i e y o;simp only[cF,zL,e_]at h;refine .inr ⟨(y.ev ρ).bE,by grind[Kd.pv],by grind[SC.a_,bC.view,fk,SB.a_],λk j=>?_⟩;simp_all[SC.a_,C.names]
  .cases h
 .exact⟨rfl,by simp[SC.a_,C.names]⟩
 .obtain⟨g,a⟩:=Gg h;exact⟨by grind[SC.a_,C.eh],by grind[SC.a_,C.names]⟩
 .simp only[cF]at h;obtain⟨g,a⟩:=Gg h.1.1;exact⟨by grind[SC.a_,C.eh],by grind[SC.a_,C.names]⟩
 .simp only[cF,beq_iff_eq]at h;obtain⟨g,a⟩:=Gg (by simpa using h.1);exact⟨by simp_all[SC.a_,C.eh],by grind[SC.a_,C.names]⟩
 .simp only[cF,beq_iff_eq]at h;exact⟨by grind[SC.a_,C.eh],by simp[SC.a_,C.names]⟩
 .rename_i f b p d;simp only[cF,beq_iff_eq]at h;obtain⟨rfl,a⟩:=h;have q:d=b.map (λm=>(ι[m]?).getD 0)/\∀m∈b,m<ι.length:=by
   induction b generalizing d with
   |nil=>simp_all
   |cons m b ih=>
    cases d with
    |nil=>simp at a
    |cons n d=>
     grind
  exact⟨by simp_all[SC.a_,C.eh],by simp_all[SC.a_,C.names]⟩
 .obtain⟨g,a⟩:=Gg h;exact⟨by grind[SC.a_,C.eh],by grind[SC.a_,C.names]⟩
 .cases h
def L8:∀{a cs:List SC},Cp S σ ι ei a cs=true->cs.length=a.length/\∀(i:Nat)(c':C),(a.map (SC.a_ (σ.map (At.ev ρ))))[i]?=some c'->∃c,(cs.map (SC.a_ ρ))[i]?=some c/\tb (S.a_ ρ) ι ei c' c
 |[],[],_=>⟨rfl,by simp⟩
 |c'::a,c::cs,h=>by
  simp only[Cp,cF]at h;obtain⟨e,f⟩:=L8 h.2;refine⟨by simp[e],λi d b=>?_⟩
  cases i with
  |zero=>simp at b;subst b;exact⟨_,rfl,aaC h.1⟩
  |succ i=>grind
 |[],_::_,h=>by cases h
 |_::_,[],h=>by cases h
def aku{a x}(h:Q4 S σ ι ei a x=true):zf (S.a_ ρ) ι ei (a.a_ (σ.map (At.ev ρ))) (x.a_ ρ):=by
 cases a with
 |c f=>
  cases x with
  |c c=>exact aaC h
  |agg=>cases h
 |agg b=>
  cases x with
  |c=>cases h
  |agg cs=>
   obtain⟨d,e⟩:=L8 (ρ:=ρ) h;exact⟨by simpa using d,e⟩
def RI:∀{a xs:List bN},Bx S σ ι ei a xs=true->xs.length=a.length/\∀(i:Nat)(b:V1),(a.map (bN.a_ (σ.map (At.ev ρ))))[i]?=some b->∃x,(xs.map (bN.a_ ρ))[i]?=some x/\zf (S.a_ ρ) ι ei b x
 |[],[],_=>⟨rfl,by simp⟩
 |c'::f,c::cs,h=>by
  simp only[Bx,cF]at h;obtain⟨g,j⟩:=RI h.2;refine⟨by simp[g],λi d e=>?_⟩
  cases i with
  |zero=>simp at e;subst e;exact⟨_,rfl,aku h.1⟩
  |succ i=>grind
 |[],_::_,h=>by cases h
 |_::_,[],h=>by cases h
def apE{a b}(h:KT S σ ι ei a b=true):yL (S.a_ ρ) ι ei (a.a_ (σ.map (At.ev ρ))) (b.a_ ρ):=by
 cases a with
 |box c=>
  cases b with
  |box cs=>
   obtain⟨d,f⟩:=L8 (ρ:=ρ) h;exact⟨by simpa using d,f⟩
  |_=>cases h
 |row e x=>
  cases b with
  |row g y=>
   simp only[KT,cF,beq_iff_eq]at h;exact⟨h.1,by rw[<-At.yM,At.nT h.2]⟩
  |_=>cases h
 |map x=>
  cases b with
  |map y=>
   show(x.ev _).bE=(y.ev _).bE;rw[<-At.yM,At.nT h]
  |_=>cases h
def WV:∀{a:List Nat}{bs:List SB},Ab S σ ι ei a bs=true->a.length=bs.length/\∀(i:Nat)(f:fv),(bs.map (SB.a_ (σ.map (At.ev ρ))))[i]?=some f->∃n b,a[i]?=some n/\(S.a_ ρ).heap.lookup n=some b/\yL (S.a_ ρ) ι ei f b
 |[],[],_=>⟨rfl,by simp⟩
 |n ::a,b::bs,h=>by
  simp only[Ab,cF]at h;obtain⟨j,l⟩:=WV h.2;refine⟨by simp[j],λi d g=>?_⟩
  cases i with
  |zero=>
   simp at g;subst g;have c:=h.1;split at c
   .rename_i k e;exact⟨n,k.a_ ρ,rfl,by rw[fk,e];rfl,apE c⟩
   .cases c
  |succ i=>grind
 |[],_::_,h=>by cases h
 |_::_,[],h=>by cases h
end
def Je{α:Type}:List (Option α)->Option (List α)
 |[]=>some []
 |some x::l=>(Je l).map (x:: ·)
 |none::_=>none
def bw.bare(T:bY)(s:bw):Bool:=s.res.bare&&s.out.all λx=>match x.2 with
 |.box cs=>cs.all SC.bare
 |.row e (.v i)=>decide (s.iM<=i)&&match(List.lookup e T).bind Ty.pa with
  |some ks=>ks.all λk=>decide (k≠ .sl)
  |none=>false
 |_=>false
def bw.look(s:bw):List Nat:=s.out.filterMap λx=>match x.2 with
 |.row _ (.v i)=>some (i-s.iM)
 |_=>none
def yh(k:Nat)(o:dh)(a:List Nat):Bool:=a.all λn=>decide (n<k+8)&& (decide (k<=n)|| (List.lookup n o).isSome)
def sameAt:At->At->Bool
 |.v n,.v m=>n==m
 |.i n,.i m=>decide (n=m)
 |.b s,.b t=>s==t
 |.r0,.r0=>true
 |_,_=>false
def Od:SC->SC->Bool
 |.p k x,.p a y=>decide (k=a)&&sameAt x y
 |.nil,.nil=>true
 |.own n,.own m=>n==m
 |.dead,.dead=>true
 |_,_=>false
def E0:List SC->List SC->Bool
 |[],[]=>true
 |c::cs,d::ds=>Od c d&&E0 cs ds
 |_,_=>false
def BI:Option SB->Option SB->Bool
 |some (.box cs),some (.box ds)=>E0 cs ds
 |some (.row e x),some (.row a y)=>decide (e=a)&&sameAt x y
 |_,_=>false
def UB{ρ}:∀{x y:At},sameAt x y=true->x.ev ρ=y.ev ρ:=by
 intro x y h;cases x<;>cases y<;>simp_all [sameAt,At.ev]
def aui{ρ}{c d:SC}(h:Od c d=true):c.a_ ρ=d.a_ ρ:=by
 cases c<;>cases d<;>simp only[Od,cF,e_,beq_iff_eq,pW]at h
 .obtain⟨rfl,h⟩:=h;simp only[SC.a_,UB h]
 .rfl
 .subst h;rfl
 .rfl
def QS{ρ}:∀{cs ds:List SC},E0 cs ds=true->cs.map (SC.a_ ρ)=ds.map (SC.a_ ρ)
 |[],[],_=>rfl
 |c::cs,d::ds,h=>by
  simp only[E0,cF]at h;rw[dE,dE,aui h.1,QS h.2]
def aup{ρ}{a b:Option SB}(h:BI a b=true):a.map (SB.a_ ρ)=b.map (SB.a_ ρ):=by
 unfold BI at h;split at h
 .simp only[cg,SB.a_,QS h]
 .simp only[cF,e_]at h;obtain⟨rfl,h⟩:=h;simp only[cg,SB.a_,UB h]
 .cases h
def z7(S:bt)(ι:List Nat)(u:dh):dh:=u.filter λx=> !(ι.contains x.1&&BI (List.lookup x.1 u) (List.lookup x.1 S.heap))
def C9{α:Type}{p:Nat->Bool}{n:Nat}:∀{l:List (Nat×α)},List.lookup n (l.filter λx=>p x.1)=if p n then List.lookup n l else none
 |[]=>by simp
 |(k,a)::l=>by
  rw[List.filter_cons];by_cases c:n=k
  .subst c;by_cases hp:p n=true
   .simp[hp]
   .simp only[hp];rw[bG ch,C9,bG hp];simp
  .have b:(n==k)=false:=by simp[c]
   split
   .rw[gb,b,gb,b];exact C9
   .rw[gb,b];exact C9
def azG(S:bt)(ι:List Nat)(u:dh)(ρ:List L):(∀n b,List.lookup n ((z7 S ι u).a_ ρ)=some b->List.lookup n (u.a_ ρ)=some b)/\
 ∀n b,List.lookup n (u.a_ ρ)=some b->List.lookup n ((z7 S ι u).a_ ρ)=some b\/n∈ι/\List.lookup n ((z7 S ι u).a_ ρ)=none/\List.lookup n (S.a_ ρ).heap=some b:=by
 have key:∀n,List.lookup n (z7 S ι u)=if(!(ι.contains n&&BI (List.lookup n u) (List.lookup n S.heap)))=true then List.lookup n u else none:=λn=>
  C9 (p:=λn=> !(ι.contains n&&BI (List.lookup n u) (List.lookup n S.heap)))
 refine⟨λn b h=>?_,λn b h=>?_⟩
 .rw[dh.rP,key]at h;rw[dh.rP];split at h
  .exact h
  .cases h
 .rw[dh.rP]at h;rw[dh.rP,key];split
  .exact .inl h
  .rename_i a;simp only[pV,Bool.not_eq_false,cF,zL,e_]at a;refine .inr ⟨a.1,rfl,?_⟩;rw[fk,<-aup a.2,h]
def GR(T:bY)(S:bt)(d:Nat)(xs:List bN)(s:bw):Option cG:=
 let a:=wc S (Oj S ⟨List.replicate s.iM none,List.replicate s.H.length none,[]⟩ s.params xs) 0 s.H
 match Je a.σ,Je a.ι with
 |some σ,some ι=>
  let ei:=a.ei
  let bare:=s.bare T&& !ei.isEmpty
  let bx:=(if bare then[]else ei)++(ι.zipIdx.filterMap λx=>if(List.lookup x.2 s.out).isNone then some x.1 else none)
  let c:=ly ι d
  let b:=σ++(List.range s.kF).map λi=>.v (S.nv+i)
  if σ.length=s.iM/\decide ι.Nodup=true/\Bx S σ ι ei s.params xs=true/\Ab S σ ι ei ι s.H=true/\(ι.all λn=> !S.bx.contains n&& !ei.contains n)=true/\(ei.all λn=> !S.bx.contains n)=true/\
   yh ι.length s.out s.res.names=true/\(s.out.all λx=>decide (x.1<ι.length+8)&&yh ι.length s.out x.2.names)=true/\(bx.all λn=>decide (n<d))=true
  then some ⟨[.call s.tag s.F σ s.kF (if bare then s.look else[])],s.res.fW (SC.put b c),⟨z7 S ι (s.out.map λx=>(c x.1,x.2.fW (SC.put b c) (At.sub b))),bx⟩,ι++ei⟩else none
 |_,_=>none
theorem SC.Xg(ρ)(b:SB):(b.a_ ρ).names=b.names:=by
 cases b with
 |box cs=>exact SC.W7 ρ cs
 |row=>rfl
 |map=>rfl
def B'{l:dh}{n b}(h:List.lookup n l=some b):(n,b)∈l:=by
 induction l with
 |nil=>cases h
 |cons x l ih=>
  grind
def aBx{P T S ρ d xs s r}(hs:s.ok P)(h:GR T S d xs s=some r)(I:Sat ρ S.nv r.nds):
 AT P (S.a_ ρ) d s.f (xs.map (bN.a_ ρ)) (r.v.a_ ρ) (r.e.a_ ρ) r.rd:=by
 unfold GR at h;simp only at h;generalize wc S (Oj S ⟨List.replicate s.iM none,List.replicate s.H.length none,[]⟩ s.params xs) 0 s.H=a at h;split at h
 .rename_i σ ι ah ai;generalize R:a.ei=ei at h;generalize f:(s.bare T&& !ei.isEmpty)=bare at h;generalize C:(if bare=true then[]else ei)++(ι.zipIdx.filterMap λx=>if(List.lookup x.2 s.out).isNone then some x.1 else none)=bx at h;by_cases hc:σ.length=s.iM/\decide ι.Nodup=true/\Bx S σ ι ei s.params xs=true/\Ab S σ ι ei ι s.H=true/\(ι.all λn=> !S.bx.contains n&& !ei.contains n)=true/\(ei.all λn=> !S.bx.contains n)=true/\
   yh ι.length s.out s.res.names=true/\(s.out.all λx=>decide (x.1<ι.length+8)&&yh ι.length s.out x.2.names)=true/\(bx.all λn=>decide (n<d))=true
  .rw [bB hc]at h;simp only[ko]at h;subst h;subst C;obtain⟨U,D,W,X,E,J,Y,z,K⟩:=hc;simp only[e_]at D;simp only[cI,cF,pV,zL,zF]at E J;simp only[cI,e_]at K;obtain⟨⟨o,g,aj⟩,_⟩:=I;simp only[Nd.ev]at g;generalize M:(if bare=true then s.look else[])=us at g;split at g
   .rename_i l hF;split at g
    .rename_i t;cases g;obtain⟨Z,F⟩:=t;have aa:(σ.map (At.ev ρ)).length=s.iM:=by simp[U]
     have hA:=hs (σ.map (At.ev ρ)) o aa hF Z;have A:(σ++(List.range s.kF).map λi=>At.v (S.nv+i)).map (At.ev ρ)=σ.map (At.ev ρ)++o:=by
      rw[dU];congr 1;apply sE;intro i;simp only[gW,cY];by_cases hi:i<s.kF
      .simp_all[Nd.n,cg,Function.comp,At.ev,ik]
      simp_all
     obtain⟨ab,ac⟩:=RI (ρ:=ρ) W;obtain⟨k,ad⟩:=WV (ρ:=ρ) X;have p:∀n,List.lookup n (dh.a_ (σ.map (At.ev ρ)++o) s.out)=(List.lookup n s.out).map (SB.a_ (σ.map (At.ev ρ)++o)):=dh.rP _ s.out;have N:∀ns,yh ι.length s.out ns=true->∀n∈ns,n<ι.length+8/\(n<ι.length->List.lookup n s.out≠none):=by
      intro ns ae n t;simp only[yh,cI,cF,pZ,e_]at ae;grind
     refine⟨_,_,_,_,ι,ei,hA,by simpa using k,D,by simpa using ab,ac,ad,λn t=>⟨(E n t).1,(E n t).2⟩,J,?_,?_,?_,?_,?_,?_,?_,K,?_,?_,rfl⟩
     .grind[SV.oX]
     .intro n b u;rw[p]at u;simp only[b9]at u;obtain⟨b0,w,rfl⟩:=u;simp only[cI,cF,e_]at z;obtain⟨q,G⟩:=z _ (B' w);grind[SC.Xg]
     .intro n t H;rw[SV.oX]at t;rw[p];have:=(N _ Y n t).2 H
      cases hx:List.lookup n s.out with
      |none=>grind
      |some _=>simp
     .intro n b u m hm H;rw[p]at u;simp only[b9]at u;obtain⟨b0,w,rfl⟩:=u;simp only[cI,cF,e_]at z;obtain⟨q,G⟩:=z _ (B' w);rw[p];have:=(N _ G m (by grind[SC.Xg])).2 H
      cases hx:List.lookup m s.out with
      |none=>grind
      |some _=>simp
     ·
      cases af:bare with
      |false=>grind[iF.a_]
      |true =>
       right;rw[af]at f M;rw[<-M]at F;simp only[cF]at f;have Q:=f.1;unfold bw.bare at Q;simp only[cF,cI]at Q;refine⟨?_,λn b u=>?_⟩
       .have k:=Q.1;generalize s.res=ag at k
        cases ag with
        |v x=>
         cases x with
         |c c=>exact SC.Aj k
         |agg cs=>
          simp only[SV.bare,bN.bare,cI]at k;simp only[SV.a_,bN.a_,V.bare,V1.bare,cI,gg];rintro _ ⟨c,O,rfl⟩;grind[SC.Aj]
        |bM ys=>
         simp only[SV.bare,cI]at k;simp only[SV.a_,V.bare,cI,gg];rintro _ ⟨y,hy,rfl⟩;have:=k y hy
         cases y with
         |c c=>exact SC.Aj this
         |agg cs=>
          simp only[bN.bare,cI]at this;simp only[bN.a_,V1.bare,cI,gg];rintro _ ⟨c,O,rfl⟩;grind[SC.Aj]
       .rw [p]at u;simp only[b9]at u;obtain⟨b0,w,rfl⟩:=u;have B:=B' w;have q:=Q.2 _ B
        cases b0 with
        |box cs=>
         simp only[cI]at q;simp only[SB.a_,fv.bare,cI,gg];rintro _ ⟨c,O,rfl⟩;grind[SC.Aj]
        |row e x=>
         cases x with
         |v i=>
          simp only[cF,e_]at q;have ak:i-s.iM∈s.look:=by
           exact uj.2 ⟨_,B,rfl⟩
          grind[SB.a_,fv.bare,At.ev]
         |_=>cases q
        |map=>cases q
     ·
      intro i n hi;rw[p];simp only[iF.a_,iP,uj];constructor
      .rintro(q| ⟨⟨m,j⟩,q,G⟩)
       .grind
       .split at G
        .rename_i h3;cases G;rw[List.mem_zipIdx_iff_getElem?]at q;have h4:=lM.1 D;have:i=j:=by
          grind
         subst this;simp only[Option.isNone_iff_eq_none]at h3;rw[h3];rfl
        .cases G
      .intro q;right;refine⟨(n,i),by grind,?_⟩;have:List.lookup i s.out=none:=by
        cases hx:List.lookup i s.out with
        |none=>rfl
        |some _=>grind
       rw[this];rfl
     .intro n t;simp only[iF.a_,iP,uj]at t;rcases t with q| ⟨⟨m,j⟩,q,G⟩
      .grind
      grind
     .rw[SV.yE,A]
     .have hU:Hp.eh (ly ι d) (dh.a_ (σ.map (At.ev ρ)++o) s.out)=dh.a_ ρ (s.out.map λx=>(ly ι d x.1,x.2.fW (SC.put (σ++(List.range s.kF).map λi=>At.v (S.nv+i)) (ly ι d)) (At.sub (σ++(List.range s.kF).map λi=>At.v (S.nv+i))))):=by
       simp only[dh.a_,Hp.eh,gW];apply ia;intro x _;simp only[Function.comp,SB.yE,A]
      rw[hU];exact azG S ι _ ρ
    .cases g
   .cases g
  grind
 .cases h
end
end
end Go.Proofs.YtiikkkhcolcebaaGreatDoor
