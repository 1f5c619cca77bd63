/- A part. -/
import Derived.Test.YtiikkkhcolcebaaGreatDoorG13
set_option linter.all false
set_option maxHeartbeats 4000000
set_option maxRecDepth 100000
namespace Go.Proofs.YtiikkkhcolcebaaGreatDoor
noncomputable section
section
open Go.RowKit
def ON:cF->Nat
 |.tmp t=>1<<<t
 |_=>0
def ahi(n:Nat)(o:Oper):Nat:=
 let n:=match o.dst,o.guard with
  |some t,none=>n^^^ (n&&& (1<<<t))
  |_,_=>n
 o.op.operands.toList.foldl (λn x=>n|||ON x) n
def lv:Code->Nat->List (Nat×Nat)->Nat->Nat
 |.skip,n,_,_=>n
 |.region _ ops _,n,_,_=>ops.toList.reverse.foldl ahi n
 |.seq a b,n,ex,r=>lv a (lv b n ex r) ex r
 |.cond c a b,n,ex,r=>ON c|||lv a n ex r|||lv b n ex r
 |.block id c,n,ex,r=>lv c n ((id,n)::ex) r
 |.loop c,_,ex,r=>lv c 0 ex r
 |.exit id,_,ex,_=>(List.lookup id ex).getD 0
 |.ret,_,_,r=>r
 |.scope c,n,ex,r=>lv c n ex r
 |.label _,n,_,_=>n
 |_,_,_,_=>0
structure MG where
 np:Nat
 ps:List (List At×Nat)
 ns:List (List (Option Nat)×Nat)
 next:Nat
def Qm:List At->List At->Bool
 |[],[]=>true
 |x::xs,y::ys=>x.same y&&Qm xs ys
 |_,_=>false
def Af(a:Nat)(xs:List At)(g:MG):At×MG:=match xs with
 |x::r=>if x.in a&&r.all (x.same ·)then(x,g)
  else match g.ps.find? (λp=>Qm p.1 xs)with
   |some p=>(.v (a+p.2),g)
   |none=>(.v (a+g.np),{g with np:=g.np+1,ps:=(xs,g.np)::g.ps})
 |[]=>(.b false,g)
def LD(k0:Nat)(xs:List (Option Nat))(g:MG):Option (Nat×MG):=
 match g.ns.find? (λp=>p.1==xs)with
 |some p=>some (p.2,g)
 |none=>
  if g.ns.any λp=>(p.1.zip xs).any λa=>a.1.isSome&&a.1==a.2 then none
  else match xs with
   |some m::r=>if decide (m<k0)&&r.all (· ==some m)then some (m,{g with ns:=(xs,m)::g.ns})else some (g.next,{g with ns:=(xs,g.next)::g.ns,next:=g.next+1})
   |_=>some (g.next,{g with ns:=(xs,g.next)::g.ns,next:=g.next+1})
def Ul(k0:Nat):List (List (Option Nat))->MG->Option (List Nat×MG)
 |[],g=>some ([],g)
 |xs::r,g=>match LD k0 xs g with
  |some (n,g)=>match Ul k0 r g with
   |some (a,g)=>some (n::a,g)
   |none=>none
  |none=>none
def Ql:List SC->Option Kd
 |[]=>none
 |.p k _::_=>some k
 |_::r=>Ql r
def HC:SC->Bool
 |.nil=>true
 |.sub _ (.i 0) (.i 0)=>true
 |_=>false
def Pz(_k0:Nat)(cs:List SC):Bool:=cs.all (λc=>match c with| .nil=>true| .own _=>true| .sub _ (.i 0) _=>true|_=>false)&&cs.any (λc=>match c with| .sub _ _ _=>true|_=>false)&&cs.any (λc=>match c with| .sub _ _ _=>false|_=>true)
def agF(k0:Nat)(cs:List SC):Option Kd:=if cs.all HC||Pz k0 cs then none else match Ql cs with
 |some k=>some k
 |none=>if cs.any (λc=>match c with| .sub _ _ _=>true|_=>false)&&cs.any (λc=>match c with| .sub _ _ _=>false|_=>true)then some .sl else none
def column:Nat->List (List Nat)->List (List (Option Nat))
 |0,_=>[]
 |n+1,xs=>xs.map List.head?::column n (xs.map List.tail)
def mC(k0 d:Nat)(t:List cU)(cs:List SC)(g:MG):SC×MG:=
 match agF k0 cs with
 |some k=>match(cs.zip t).mapM (λ(x:SC×cU)=>match x.1 with
  |.p u x=>if k=u then some x else none
  |.own n=>if k=.sl then match List.lookup n x.2 with
   |some (.row _ y)=>some y
   |_=>none
   else none
  |.nil=>if k=.sl then some .r0 else none
  |.sub n _ _=>if k=.sl then some (.v (d+1000000+1000*g.np+n))else none
  |_=>none)with
  |some xs=>let(x,g):=Af d xs g; (.p k x,g)
  |none=>(.dead,g)
 |none=>
  let named (f:SC->Option (Option Nat)) (k:Nat->MG->SC×MG):SC×MG:=match cs.mapM f with
   |some h=>match LD k0 h g with
    |some (n,g)=>k n g
    |none=>(.dead,g)
   |none=>(.dead,g)
  let e (f:SC->At) (g:MG):At×MG:=Af d (cs.map f) g
  if cs.all (λc=>match c with| .nil=>true|_=>false)then(.nil,g)
  else if Pz k0 cs&& !cs.all HC then
   named (λc=>match c with| .own n=>some (some n)| .sub n _ _=>some (some n)| .nil=>some none|_=>none) λn g=>(.own n,g)
  else if cs.any (λc=>match c with| .own _=>true|_=>false)then
   named (λc=>match c with| .own n=>some (some n)| .nil=>some none|_=>none) λn g=>(.own n,g)
  else if cs.all HC then named (λc=>match c with| .sub n _ _=>some (some n)| .nil=>some none|_=>none) λn g=>(.sub n (.i 0) (.i 0),g)
  else match cs with
   |.sub _ _ _::_=>named (λc=>match c with| .sub n _ _=>some (some n)|_=>none) λn g=>
    let(a,g):=e (λc=>match c with| .sub _ a _=>a|_=>.b false) g
    let(b,g):=e (λc=>match c with| .sub _ _ b=>b|_=>.b false) g
    (.sub n a b,g)
   |.ptr _ o::_=>named (λc=>match c with| .ptr n p=>if o=p then some (some n)else none|_=>none) λn g=>(.ptr n o,g)
   |.ia _ o s m _::_=>named (λc=>match c with| .ia n p v w _=>if o=p/\s=v/\m=w then some (some n)else none|_=>none) λn g=>
    let(i,g):=e (λc=>match c with| .ia _ _ _ _ i=>i|_=>.b false) g
    (.ia n o s m i,g)
   |.dH _ _ j::_=>named (λc=>match c with| .dH n _ q=>if j=q then some (some n)else none|_=>none) λn g=>
    let(i,g):=e (λc=>match c with| .dH _ i _=>i|_=>.b false) g
    (.dH n i j,g)
   |.ref _ j::_=>match cs.mapM (λc=>match c with| .ref x q=>if j=q then some x else none|_=>none)with
    |some xs=>let(x,g):=Af d xs g; (.ref x j,g)
    |none=>(.dead,g)
   |.fn f h::_=>match cs.mapM (λc=>match c with| .fn z l=>if f==z&&l.length==h.length then some l else none|_=>none)with
    |some r=>match Ul k0 (column h.length r) g with
     |some (h,g)=>(.fn f h,g)
     |none=>(.dead,g)
    |none=>(.dead,g)
   |.mp _::_=>named (λc=>match c with| .mp n=>some (some n)|_=>none) λn g=>(.mp n,g)
   |_=>(.dead,g)
def Nz(k0 a:Nat)(d:List cU):Nat->List (List SC)->MG->List SC×MG
 |0,_,g=>([],g)
 |n+1,b,g=>
  let(c,g):=mC k0 a d (b.map λxs=>xs.headD .dead) g
  let(cs,g):=Nz k0 a d n (b.map List.tail) g
  (c::cs,g)
def Wj(k0 a:Nat)(d:List cU)(xs:List bK)(g:MG):bK×MG:=
 match xs.mapM (λx=>match x with| .c c=>some c|_=>none)with
 |some cs=>let(c,g):=mC k0 a d cs g; (.c c,g)
 |none=>match xs.mapM (λx=>match x with| .agg cs=>some cs|_=>none)with
  |some (cs::b)=>if b.all (λc=>c.length==cs.length)then
   let(cs,g):=Nz k0 a d cs.length (cs::b) g; (.agg cs,g)
   else(.c .dead,g)
  |_=>(.c .dead,g)
def T_(k0 a:Nat)(d:List cU):Nat->List (List bK)->MG->List bK×MG
 |0,_,g=>([],g)
 |n+1,b,g=>
  let(c,g):=Wj k0 a d (b.map λxs=>xs.headD (.c .dead)) g
  let(cs,g):=T_ k0 a d n (b.map List.tail) g
  (c::cs,g)
def mV(k0 a:Nat)(d:List cU)(xs:List SV)(g:MG):SV×MG:=
 match xs.mapM (λx=>match x with| .v c=>some c|_=>none)with
 |some cs=>let(c,g):=Wj k0 a d cs g; (.v c,g)
 |none=>match xs.mapM (λx=>match x with| .bL cs=>some cs|_=>none)with
  |some (cs::b)=>if b.all (λc=>c.length==cs.length)then
   let(cs,g):=T_ k0 a d cs.length (cs::b) g; (.bL cs,g)
   else(.v (.c .dead),g)
  |_=>(.v (.c .dead),g)
def RW(k0 a:Nat)(d:List cU)(live:Nat):Nat->Nat->List (List SV)->MG->List SV×MG
 |0,_,_,g=>([],g)
 |n+1,i,b,g=>
  let(c,g):=if live.testBit i then mV k0 a d (b.map λxs=>xs.headD (.v (.c .dead))) g else(.v (.c .dead),g)
  let(cs,g):=RW k0 a d live n (i+1) (b.map List.tail) g
  (c::cs,g)
def Sh:List (Option Nat)->List cU->Option SB
 |some n::_,h::_=>List.lookup n h
 |none::r,_::a=>Sh r a
 |_,_=>none
def mB(k0 a:Nat)(b:List cU)(d:List (Option Nat))(g:MG):Option (SB×MG):=
 match Sh d b with
 |some (.box cs)=>match(d.zip b).mapM (λ(x:Option Nat×cU)=>match x.1 with
  |some n=>match List.lookup n x.2 with
   |some (.box c)=>if c.length==cs.length then some c else none
   |_=>none
  |none=>none)with
  |some f=>let(cs,g):=Nz k0 a b cs.length f g;some (.box cs,g)
  |none=>none
 |some (.row e _)=>match(d.zip b).mapM (λ(x:Option Nat×cU)=>match x.1 with
  |some n=>match List.lookup n x.2 with
   |some (.row h y)=>if e==h then some y else none
   |_=>none
  |none=>some .r0)with
  |some xs=>let(x,g):=Af a xs g;some (.row e x,g)
  |none=>none
 |some (.map _)=>match(d.zip b).mapM (λ(x:Option Nat×cU)=>match x.1 with
  |some n=>match List.lookup n x.2 with
   |some (.map y)=>some y
   |_=>none
  |none=>some .r0)with
  |some xs=>let(x,g):=Af a xs g;some (.map x,g)
  |none=>none
 |none=>none
def G3(k0 c:Nat)(d:List cU):Nat->Nat->MG->cU->cU×MG
 |0,_,g,a=>(a,g)
 |fuel+1,i,g,a=>if i<g.ns.length then
  match g.ns[g.ns.length-1-i]? with
  |some (xs,n)=>match mB k0 c d xs g with
   |some (b,g)=>G3 k0 c d fuel (i+1) g ((n,b)::a)
   |none=>G3 k0 c d fuel (i+1) g a
  |none=>(a,g)
  else(a,g)
def merge(live k0 a:Nat)(b:List bq):Option bq:=match b with
 |[]=>none
 |S::_=>
  let c:=b.map bq.heap
  let old:=((S.heap.map (·.1)).filter (λn=>decide (n<k0))).eraseDups
  let(tmps,g):=RW k0 a c live S.tmps.length 0 (b.map bq.tmps) ⟨0,[],[],k0⟩
  let g:=old.foldl (λg m=>match LD k0 (b.map λ_=>some m) g with
   |some (_,g)=>g
   |none=>g) g
  let(heap,g):=G3 k0 a c 300 0 g []
  some ⟨tmps,heap.reverse,[],g.next,a+g.np⟩
structure FG where
 as:List (Nat×At)
 ι:Ren
 Z:List Nat
def nw(a:Nat)(x y:At)(g:FG):FG:=match y with
 |.v j=>if a<=j then
  (match List.lookup (j-a) g.as with
  |some _=>g
  |none=> {g with as:=(j-a,x)::g.as})
  else g
 |_=>g
def fN(n a:Nat)(g:FG):FG:=match List.lookup n g.ι with
 |some _=>g
 |none=> {g with ι:=(n,a)::g.ι}
def fC(D:jm)(d:Nat)(h:cU)(c k:SC)(g:FG):FG:=match c,k with
 |.p _ x,.p _ y=>nw d x y g
 |.own n,.p _ y=>match List.lookup n h with
  |some (.row _ x)=>nw d x y g
  |_=>g
 |.nil,.p _ y=>nw d .r0 y g
 |.sub n a b,.p _ y=>match D.find? (λz=>z.1==n&&z.2.1.same a&&z.2.2.1.same b)with
  |some z=>nw d z.2.2.2 y g
  |none=>g
 |.nil,.own e=>if g.Z.contains e then g else{g with Z:=e::g.Z}
 |.nil,.sub e _ _=>if g.Z.contains e then g else{g with Z:=e::g.Z}
 |.own n,.own e=>fN n e g
 |.sub n a b,.sub e a' l=>nw d b l (nw d a a' (fN n e g))
 |.ptr n _,.ptr e _=>fN n e g
 |.ia n _ _ _ i,.ia e _ _ _ f=>nw d i f (fN n e g)
 |.dH n i _,.dH e f _=>nw d i f (fN n e g)
 |.ref x _,.ref y _=>nw d x y g
 |.fn _ m,.fn _ j=>(m.zip j).foldl (λg x=>fN x.1 x.2 g) g
 |.mp n,.mp e=>fN n e g
 |_,_=>g
def RI(D:jm)(a:Nat)(h:cU)(xs ys:List SC)(g:FG):FG:=(xs.zip ys).foldl (λg x=>fC D a h x.1 x.2 g) g
def UX(D:jm)(a:Nat)(h:cU)(x y:bK)(g:FG):FG:=match x,y with
 |.c x,.c y=>fC D a h x y g
 |.agg x,.agg y=>RI D a h x y g
 |_,_=>g
def fV(D:jm)(a:Nat)(h:cU)(x y:SV)(g:FG):FG:=match x,y with
 |.v x,.v y=>UX D a h x y g
 |.bL xs,.bL ys=>(xs.zip ys).foldl (λg x=>UX D a h x.1 x.2 g) g
 |_,_=>g
def fB(D:jm)(a:Nat)(h:cU)(x y:SB)(g:FG):FG:=match x,y with
 |.box xs,.box ys=>RI D a h xs ys g
 |.row _ x,.row _ y=>nw a x y g
 |.map x,.map y=>nw a x y g
 |_,_=>g
def Kw(D:jm)(a:Nat)(h c:cU):Nat->Nat->FG->FG
 |0,_,g=>g
 |fuel+1,i,g=>if i<g.ι.length then
  match g.ι[g.ι.length-1-i]? with
  |some (n,d)=>match List.lookup n h,List.lookup d c with
   |some b,some e=>Kw D a h c fuel (i+1) (fB D a h b e g)
   |_,_=>Kw D a h c fuel (i+1) g
  |none=>g
  else g
def aqy(D:jm)(k0 a:Nat)(b S:bq):List At×Ren×List Nat:=
 let old:=((b.heap.map (·.1)).filter (λn=>decide (n<k0))).eraseDups
 let g:FG:=⟨[],old.map λn=>(n,n),[]⟩
 let g:=(S.tmps.zip b.tmps).foldl (λg x=>fV D a S.heap x.1 x.2 g) g
 let g:=Kw D a S.heap b.heap 300 0 g
 let g:=g.Z.foldl (λg n=>match List.lookup n b.heap with
  |some (.row _ y)=>nw a .r0 y g
  |_=>g) g
 ((List.range (b.nv-a)).map λp=>(List.lookup p g.as).getD (.b false),g.ι,g.Z)
end
section
open Go.RowKit
open Classical
def bl.qW:bl->List bq
 |.bp (.st .normal S)=>[S]
 |.bp _=>[]
 |.op _ k=>k.qW
 |.ite _ a b=>a.qW++b.qW
 |.join a b=>a.qW++b.qW
 |.loop _ b=>b.qW
def bl.inLoop:Bool->bl->Bool
 |u,.bp (.st .normal _)=>u
 |_,.bp _=>false
 |u,.op _ k=>k.inLoop u
 |u,.ite _ a b=>a.inLoop u||b.inLoop u
 |u,.join a b=>a.inLoop u||b.inLoop u
 |_,.loop _ b=>b.inLoop true
def tc(S:bq):Nat->List (SV×SV)->List Nd×jm
 |_,[]=>([],[])
 |m,(x,y)::r=>match x,y with
  |.v (.c (.sub n a b)),.v (.c (.p .sl _))=>match S.view m (.sub n a b)with
   |some (nds,z)=>match tc S (m+gq nds) r with
    |(us,D)=>(nds++us,(n,a,b,z)::D)
   |none=>tc S m r
  |_,_=>tc S m r
theorem BR{S:bq}{ρ:List L}:∀{l:List (SV×SV)}{m:Nat},Sat ρ m (tc S m l).1->(tc S m l).2.ok S ρ
 |[],_,_=>λz b=>by cases b
 |(x,y)::r,m,h=>by
  unfold tc at h⊢;split at h
  .split at h
   .rename_i nds z c;obtain⟨d,e⟩:=Sat.app h;intro w a;rcases eG.1 a with rfl|a
    .exact qM c d
    .exact BR e w a
   simp_all[BR]
  .exact BR h
def pM(T:bV)(k0 a:Nat)(b:bq)(d:Nat)(e:Ex)(S:bq):Option bl:=match e with
 |.normal=>match tc S S.nv (S.tmps.zip b.tmps)with
  |(nds,D)=>match aqy D k0 a b S with
   |(as,ι,Z)=>if(ub D T k0 S b a as ι Z&&tm S.nv nds&& (nds.isEmpty||S.in S.nv))=true then some (nds.foldr .op (.bp (.jump d as)))else none
 |e=>some (.bp (.st e S))
def SC.cut(n:Nat)(b:At):SC->SC
 |.sub m (.i 0) a=>if m=n then(if a.same b then .own n else .dead)else .sub m (.i 0) a
 |c=>if c.names.contains n then .dead else c
def SB.cut(n:Nat)(b:At):SB->SB
 |.box cs=>.box (cs.map (SC.cut n b))
 |x=>x
def bq.cut(S:bq)(n:Nat)(b:At)(e:cd)(v:At):bq:={S with
 tmps:=S.tmps.map (SV.fk (SC.cut n b))
 heap:=S.heap.map λx=>(x.1,if x.1=n then .row e v else x.2.cut n b)}
def cutAt(k0:Nat)(h:cU):Nat->List (SV×SV)->Option (Nat×Nat×At×cd×At)
 |_,[]=>none
 |i,(x,y)::r=>match x,y with
  |.v (.c (.sub n (.i 0) b)),.v (.c (.own _))=>if k0<=n then match List.lookup n h with
   |some (.row e x)=>some (i,n,b,e,x)
   |_=>cutAt k0 h (i+1) r
   else cutAt k0 h (i+1) r
  |_,_=>cutAt k0 h (i+1) r
def UY(k0:Nat)(S:bq)(i n:Nat)(b:At)(ty:cd)(x:At):Bool:=S.in S.nv&&tm S.nv [.tk x b]&& (match S.tmps[i]? with
 |some (.v (.c (.sub a (.i 0) c)))=>a==n&&c.same b
 |_=>false)&&decide (k0<=n)&& (match List.lookup n S.heap with
 |some (.row d e)=>d==ty&&e.same x
 |_=>false)
def qj(T:bV)(k0 a:Nat)(c:bq)(d:Nat)(e:Ex)(S:bq):Option bl:=match e with
 |.normal=>match cutAt k0 S.heap 0 (S.tmps.zip c.tmps)with
  |some (i,n,b,ty,x)=>if UY k0 S i n b ty x=true then(pM T k0 a c d .normal ((S.cut n b ty (.v S.nv)).more 1)).map (.op (.tk x b))else none
  |none=>pM T k0 a c d .normal S
 |e=>pM T k0 a c d e S
def SC.sw(n m:Nat):SC->SC
 |.own k=>.own (if k=n then m else k)
 |.sub k a b=>.sub (if k=n then m else k) a b
 |.ptr k o=>.ptr (if k=n then m else k) o
 |.ia k o c l i=>.ia (if k=n then m else k) o c l i
 |.dH k i j=>.dH (if k=n then m else k) i j
 |.fn f d=>.fn f (d.map λk=>if k=n then m else k)
 |.mp k=>.mp (if k=n then m else k)
 |c=>c
def SB.sw(n m:Nat):SB->SB
 |.box cs=>.box (cs.map (SC.sw n m))
 |x=>x
def akZ(k0:Nat)(S a:bq):Option (bq×Ren):=match(S.tmps.zip a.tmps).findSome? (λx=>match x with
 |(.v (.c (.sub n (.i 0) _)),.v (.c (.own _)))=>if n<k0 then some n else none
 |_=>none)with
 |some n=>some ({S with tmps:=S.tmps.map (SV.fk (SC.sw n S.next)),heap:=S.heap.map (λx=>(if x.1=n then S.next else x.1,x.2.sw n S.next)),next:=S.next+1},
  ((S.heap.map (·.1)).eraseDups).map λk=>(k,if k=n then S.next else k))
 |none=>none
def jmp(T:bV)(k0 a:Nat)(b:bq)(d:Nat)(e:Ex)(S:bq):Option bl:=match e with
 |.normal=>match akZ k0 S b with
  |some (c,ι)=>if ub [] T k0 S c S.nv [] ι []=true then qj T k0 a b d .normal c else none
  |none=>qj T k0 a b d .normal S
 |e=>qj T k0 a b d e S
def inl(k:bq->Option bl)(_:Nat)(e:Ex)(S:bq):Option bl:=match e with
 |.normal=>k S
 |e=>some (.bp (.st e S))
def cont(T:bV)(k0 live a:Nat)(k:bq->Option bl)(t:bl):Option bl:=
 if decide (t.qW.length<=1)&& !t.inLoop false then t.bind (inl k) 0
 else match merge live k0 a t.qW with
  |some b=>match t.bind (jmp T k0 a b) 0,k b with
   |some u,some rest=>some (.join u rest)
   |_,_=>none
  |none=>none
def bl.Xs:bl->Bool
 |.bp _=>true
 |.op _ k=>Xs k
 |_=>false
def Cd(T:bV)(k0 live:Nat)(body:bq->Option bl):Nat->bq->Option bl
 |0,_=>none
 |n+1,S=>match body S with
  |some t=>if t.Xs then cont T k0 live S.nv (Cd T k0 live body n) t else none
  |none=>none
def CI(T:bV)(k0 live:Nat)(body:bq->Option bl)(S:bq):Nat->List bq->Option bl
 |0,_=>none
 |fuel+1,b=>match merge live k0 S.nv b with
  |some a=>match body a with
   |some t=>match jmp T k0 S.nv a 0 .normal S,t.bind (jmp T k0 S.nv a) 0 with
    |some (.bp (.jump _ as)),some u=>if a.bu.isEmpty then some (.loop as u)else none
    |_,_=>CI T k0 live body S fuel (S::t.qW)
   |none=>none
  |none=>none
def sr:Code->Nat
 |.region _ ops _=>ops.toList.foldl (λn o=>match o.dst with
  |some t=>n||| (1<<<t)
  |none=>n) 0
 |.seq a b=>sr a|||sr b
 |.cond _ a b=>sr a|||sr b
 |.block _ c=>sr c
 |.loop c=>sr c
 |.scope c=>sr c
 |_=>0
def SC.any(k:Nat):SC->SC
 |.p a _=>.p a (.v k)
 |c=>c
def SV.any(k:Nat):SV->SV
 |.v (.c c)=>.v (.c (c.any k))
 |.v (.agg cs)=>.v (.agg (cs.zipIdx.map λx=>x.1.any (k+x.2)))
 |x=>x
def pH(T:bV)(c:Code)(S:bq):List bq:=match List.lookup 999997 T with
 |some _=>[S,{S with tmps:=S.tmps.zipIdx.map λx=>if(sr c).testBit x.2 then x.1.any (2000000+S.nv+1000*x.2)else x.1}]
 |none=>[S]
def exec(T:bV)(C:eP)(k0:Nat):Code->Nat->List (Nat×Nat)->Nat->bq->Option bl
 |.skip,_,_,_,S=>some (.bp (.st .normal S))
 |.region _ ops draw,_,_,_,S=>oe T C ops draw S
 |.seq a b,n,ex,r,S=>match exec T C k0 a (lv b n ex r) ex r S with
  |some t=>cont T k0 (lv b n ex r) S.nv (exec T C k0 b n ex r) t
  |none=>none
 |.cond c a b,n,ex,r,S=>match S.arg c with
  |some (.v (.c (.p .bool (.b true))))=>exec T C k0 a n ex r S
  |some (.v (.c (.p .bool (.b false))))=>exec T C k0 b n ex r S
  |some (.v (.c (.p .bool x)))=>match exec T C k0 a n ex r S,exec T C k0 b n ex r S with
   |some u,some v=>some (.ite x u v)
   |_,_=>none
  |_=>none
 |.block id c,n,ex,r,S=>match exec T C k0 c n ((id,n)::ex) r S with
  |some t=>t.bind (λ_ e S=>some (.bp (.st (if e=.exit id then .normal else e) S))) 0
  |none=>none
 |.loop c,_,ex,r,S=>match CI T k0 (lv c 0 ex r) (exec T C k0 c (lv c 0 ex r) ex r) S 5 (pH T c S)with
  |some u=>some u
  |none=>Cd T k0 (lv c 0 ex r) (exec T C k0 c (lv c 0 ex r) ex r) 600 S
 |.exit id,_,_,_,S=>some (.bp (.st (.exit id) S))
 |.ret,_,_,_,S=>some (.bp (.st .ret S))
 |.scope c,n,ex,r,S=>exec T C k0 c n ex r S
 |.label _,_,_,_,S=>some (.bp (.st .normal S))
 |.goto _,_,_,_,S=>some (.op (.du (.i 0) 0) (.bp (.st .normal S)))
 |_,_,_,_,_=>none
def po(P:cC)(k0:Nat)(c:Code)(S:bq)(t:bl):Prop:=∀ρ x a,ρ.length=S.nv->t.a_ ρ=some (x,a)->Good P k0 c S ρ x a
theorem pX{f}{t u:bl}{ρ o}
 (g:∀x ρ1,t.a_ ρ=some (x,ρ1)->∃e S,x=.st e S)
 (H:∀e S ρ1,t.a_ ρ=some (.st e S,ρ1)->∀d c,f d e S=some c->c.a_ ρ1=((f 0 e S).bind (·.a_ ρ1)).map (lift d))
 (h:t.bind f 0=some u) (i:u.a_ ρ=some o):∃e S ρ1 v,t.a_ ρ=some (.st e S,ρ1)/\f 0 e S=some v/\v.a_ ρ1=some o:=by
 have a:=qK (f:=f) (R:=λe S ρ1=>(f 0 e S).bind (·.a_ ρ1)) (t:=t) (u:=u) (d:=0) (ρ:=ρ) H h;rw[i]at a
 cases b:t.a_ ρ with
 |none=>rw[b]at a;cases a
 |some y=>
  obtain⟨x,ρ1⟩:=y;obtain⟨e,S,rfl⟩:=g x ρ1 b;rw[b]at a;simp only[after]at a
  cases j:f 0 e S with
  |none=>simp_all
  |some v=>
   grind
theorem Good.bare{P k0 c S ρ a x}(h:Good P k0 c S ρ x a):∃e d,x=.st e d:=by
 obtain⟨e,d,k,_⟩:=h;simp_all
theorem XG{d o}(h:∀x ρ,o=some (x,ρ)->∃e S,x=.st e S):o=o.map (lift d):=by
 cases o with
 |none=>rfl
 |some y=>
  obtain⟨x,ρ⟩:=y;obtain⟨e,S,rfl⟩:=h x ρ rfl;rfl
theorem JP{T k0 a b d e S c ρ1}(h:pM T k0 a b d e S=some c):c.a_ ρ1=((pM T k0 a b 0 e S).bind (·.a_ ρ1)).map (lift d):=by
 cases e with
 |normal=>
  simp only[pM]at h⊢;split at h
  .rename_i f;cases h;rw[bA f];simp only[rj,B6];split
   .simp_all[bl.a_,b_,lift]
   .rfl
  .cases h
 |_=>cases h;rfl
theorem GK{T k0 a f d e S g ρ1}(h:qj T k0 a f d e S=some g):g.a_ ρ1=((qj T k0 a f 0 e S).bind (·.a_ ρ1)).map (lift d):=by
 cases e with
 |normal=>
  simp only[qj]at h⊢;split at h
  .rename_i i n b ty x hcut;split at h
   .rename_i k;rw[bA k];simp only[bY]at h;obtain⟨u,l,rfl⟩:=h;have key:∀c,u.a_ c=((pM T k0 a f 0 .normal ((S.cut n b ty (.v S.nv)).more 1)).bind (·.a_ c)).map (lift d):=λc=>JP l
    cases j:pM T k0 a f 0 .normal ((S.cut n b ty (.v S.nv)).more 1)with
    |none=>
     simp only[j,Option.bind_none,ZS]at key;simp only[bl.a_,key,ZS,Option.bind_none];split<;>rfl
    |some m=>
     simp only[j,rj]at key;simp only[b_,rj,bl.a_,key];split<;>rfl
   .cases h
  .exact JP h
 |_=>simp only[qj]at h⊢;exact JP h
theorem yq{T k0 a b d e S c ρ1}(h:jmp T k0 a b d e S=some c):c.a_ ρ1=((jmp T k0 a b 0 e S).bind (·.a_ ρ1)).map (lift d):=by
 cases e with
 |normal=>
  simp only[jmp]at h⊢;split at h
  .split at h
   .rename_i f;rw[bA f];exact GK h
   .cases h
  .exact GK h
 |_=>simp only[jmp]at h⊢;exact GK h
theorem Vp{P T}(k:bV.ok P T){k0 S d ρ ys b}(l:ρ.length=b)(f:S.nv=(ρ++ys).length){v o}(m:S.bu=[])(h:pM T k0 b d 0 .normal S=some v)(e:v.a_ (ρ++ys)=some o):
 ∃as c,o=(.jump 0 as,ρ++ys++c)/\d.bu=[]/\d.nv=(ρ++as.map (At.ev (ρ++ys++c))).length/\∀X:Fx,X.P=P->X.k0=k0->Le X (S.a_ (ρ++ys)) (d.a_ (ρ++as.map (At.ev (ρ++ys++c)))):=by
 simp only[pM]at h;split at h
 .rename_i g;cases h;simp only[cu,oX]at g;obtain⟨⟨n,s⟩,t⟩:=g;rw[B6]at e;split at e
  .rename_i p i;cases e;obtain⟨c,q,u⟩:=Ed i;subst q;have a:=HU (ys:=[]) (by simp_all) i;rw[fW,<-f]at a;have r:S.a_ (ρ++ys++c)=S.a_ (ρ++ys):=by
    grind[gq,bq.lJ]
   have j:=BR (S:=S) a;rw[dI]at j;have:=zg k l j n m;grind
  .cases e
 .cases h
theorem SC.pq{ρ n b}(c:SC):tz n (b.ev ρ).br.toNat (c.a_ ρ) ((c.cut n b).a_ ρ):=by
 have a:∀c:SC,tz n (b.ev ρ).br.toNat (c.a_ ρ) ((if c.names.contains n then SC.dead else c).a_ ρ):=by
  intro c;split
  .exact .inl rfl
  .rename_i d;exact .inr (.inl ⟨rfl,by rw[SC.nO];simpa using d⟩)
 unfold SC.cut;split
 .split
  .rename_i h;subst h;split
   .rename_i k;rw[At.mE k];exact .inr (.inr ⟨rfl,rfl⟩)
   .exact .inl rfl
  .exact .inr (.inl ⟨rfl,by simp only[SC.a_,C.names,jX];omega⟩)
 .exact a _
theorem bK.pq{ρ n b}(x:bK):yL n (b.ev ρ).br.toNat (x.a_ ρ) ((x.fk (SC.cut n b)).a_ ρ):=by
 cases x with
 |c c=>
  have:=SC.pq (ρ:=ρ) (n:=n) (b:=b) c;simp only[bK.fk,bK.a_];revert this;generalize SC.a_ ρ (SC.cut n b c)=a;intro h;cases a<;>first|trivial|exact h
 |agg cs=>
  refine⟨by simp,λi a d=>?_⟩;simp only[cX,Gr,bY,Function.comp]at d;obtain⟨c,k,rfl⟩:=d;exact⟨c.a_ ρ,by simp[k],SC.pq c⟩
theorem SV.pq{ρ n b}(x:SV):WT n (b.ev ρ).br.toNat (x.a_ ρ) ((x.fk (SC.cut n b)).a_ ρ):=by
 cases x with
 |v x=>
  have:=bK.pq (ρ:=ρ) (n:=n) (b:=b) x;simp only[SV.fk,SV.a_];revert this;generalize bK.a_ ρ (bK.fk (SC.cut n b) x)=y;intro h
  cases y with
  |c c=>cases c<;>first|trivial|exact h
  |agg=>exact h
 |bL xs=>
  refine⟨by simp,λi k a=>?_⟩;simp only[cX,Gr,bY,Function.comp]at a;obtain⟨c,d,rfl⟩:=a;exact⟨c.a_ ρ,by simp[d],bK.pq c⟩
theorem SB.pq{ρ n b}(x:SB):P4 n (b.ev ρ).br.toNat (x.a_ ρ) ((x.cut n b).a_ ρ):=by
 cases x with
 |box cs=>
  refine⟨by simp,λi h a=>?_⟩;simp only[cX,Gr,bY,Function.comp]at a;obtain⟨c,d,rfl⟩:=a;exact⟨c.a_ ρ,by simp[d],SC.pq c⟩
 |row e x=>exact⟨rfl,rfl⟩
 |map=>rfl
theorem Sn{f:Nat->SB->SB}{m}:∀{h:cU},List.lookup m (h.map λx=>(x.1,f x.1 x.2))=(List.lookup m h).map (f m)
 |[]=>rfl
 |(k,b)::h=>by
  simp only[dk,fD];split
  .simp_all
  .exact Sn
theorem afi{ρ}{S:bq}{k0 n i:Nat}{b v x e}(hg:S.bu=[])(hk:k0<=n)(hi:S.tmps[i]?=some (.v (.c (.sub n (.i 0) b))))(hl:List.lookup n S.heap=some (.row e x))(hv:(v.ev ρ).bC=(x.ev ρ).bC.take (b.ev ρ).br.toNat):
 JD k0 (S.a_ ρ) ((S.cut n b e v).a_ ρ) n (b.ev ρ).br.toNat e (x.ev ρ).bC where
 k0:=hk
 bu:=hg
 next:=rfl
 row:=by rw[eK,hl];rfl
 told:=⟨i,by simp only[bq.a_,cX,hi];rfl⟩
 len:=by simp[bq.a_,bq.cut]
 tmps:=λj v' hj=>by
  simp only[bq.a_,bq.cut,cX,Gr,bY,Function.comp]at hj;obtain⟨y,hy,rfl⟩:=hj;simp_all[bq.a_,SV.pq]
 heap:=λm b' hb=>by
  rw[eK]at hb;simp only[bY]at hb;obtain⟨b0,hb0,rfl⟩:=hb;have hb0:List.lookup m (S.heap.map λx=>(x.1,(λm b1=>if m=n then SB.row e v else b1.cut n b) x.1 x.2))=some b0:=hb0;rw[Sn (f:=λm b1=>if m=n then SB.row e v else b1.cut n b)]at hb0;simp only[bY]at hb0;obtain⟨b1,hb1,rfl⟩:=hb0;by_cases hm:m=n
  .left;subst hm;exact⟨rfl,by simp only[if_true,SB.a_,hv]⟩
  .right;refine⟨hm,b1.a_ ρ,by rw[eK,hb1];rfl,?_⟩;simp_all[SB.pq]
theorem Px{P T}(A:bV.ok P T){k0 S j ρ ys d}(B:ρ.length=d)(C:S.nv=(ρ++ys).length){v o}(k:S.bu=[])(h:qj T k0 d j 0 .normal S=some v)(D:v.a_ (ρ++ys)=some o):
 ∃as c,o=(.jump 0 as,ρ++ys++c)/\j.bu=[]/\j.nv=(ρ++as.map (At.ev (ρ++ys++c))).length/\∀X:Fx,X.P=P->X.k0=k0->Le X (S.a_ (ρ++ys)) (j.a_ (ρ++as.map (At.ev (ρ++ys++c)))):=by
 simp only[qj]at h;split at h
 .rename_i i n b ty x hcut;split at h
  .rename_i t;simp only[UY,cu,eD]at t;obtain⟨⟨⟨⟨c1,c2⟩,c3⟩,c4⟩,c5⟩:=t;simp only[bY]at h;obtain⟨u,E,rfl⟩:=h;have F:S.tmps[i]?=some (.v (.c (.sub n (.i 0) b))):=by
    split at c3
    .rename_i O Q l;simp only[cu,beq_iff_eq]at c3;obtain⟨rfl,m⟩:=c3;rw[l,At.mE m]
    .cases c3
   have p:List.lookup n S.heap=some (.row ty x):=by
    split at c5
    .rename_i R U l;simp only[cu,beq_iff_eq]at c5;obtain⟨rfl,m⟩:=c5;rw[l,At.mE m]
    .cases c5
   let r:L:=.r (((x.ev (ρ++ys)).bC).take (b.ev (ρ++ys)).br.toNat)
   have q:u.a_ (ρ++(ys++[r]))=some o:=by rw[<-dI];exact D
   obtain⟨as,c,G,H,I,J⟩:=Vp (S:=(S.cut n b ty (.v S.nv)).more 1) A B (by grind[bq.more,bq.cut]) k E q;simp only[tm,Nd.in,cu,Bool.and_true]at c2;have z:∀y:At,y.in S.nv=true->y.ev (ρ++(ys++[r]))=y.ev (ρ++ys):=λy V=>by
    grind[At.fm]
   have K:((At.v S.nv).ev (ρ++(ys++[r]))).bC=((x.ev (ρ++(ys++[r]))).bC).take (b.ev (ρ++(ys++[r]))).br.toNat:=by
    rw[z x c2.1,z b c2.2];have:(ρ++(ys++[r]))[S.nv]?=some r:=by
     simp_all
    show(((ρ++(ys++[r]))[S.nv]?).getD (.b false)).bC=_;rw[this];rfl
   have e:=afi (ρ:=ρ++(ys++[r])) (k0:=k0) (v:=.v S.nv) k c4 F p K;have f:S.a_ (ρ++(ys++[r]))=S.a_ (ρ++ys):=by grind[bq.lJ]
   rw[f]at e;refine⟨as,r::c,?_,H,?_,λX s g=>?_⟩
   .rw[G];simp
   .simpa using I
   .have:=J X s g;subst g;have M:ρ++ys++r::c=ρ++(ys++[r])++c:=by simp
    rw[M];exactλa w N=>this a w (e.le k a w N)
  .cases h
 grind[Vp]
theorem sW{P T}(f:bV.ok P T){k0 S d ρ ys b}(l:ρ.length=b)(e:S.nv=(ρ++ys).length){v o}(m:S.bu=[])(h:jmp T k0 b d 0 .normal S=some v)(n:v.a_ (ρ++ys)=some o):
 ∃as c,o=(.jump 0 as,ρ++ys++c)/\d.bu=[]/\d.nv=(ρ++as.map (At.ev (ρ++ys++c))).length/\∀X:Fx,X.P=P->X.k0=k0->Le X (S.a_ (ρ++ys)) (d.a_ (ρ++as.map (At.ev (ρ++ys++c)))):=by
 simp only[jmp]at h;split at h
 .split at h
  .rename_i p;obtain⟨q,g,i⟩:=zg (D:=[]) (ρ:=ρ++ys) (ys:=[]) f e.symm (λz r=>by cases r) p m;simp only[gJ,fW]at g i;obtain⟨as,c,s,t,u,x⟩:=Px f l g q h n;exact⟨as,c,s,t,u,λX j k a w y=>x X j k a w (i X j k a w y)⟩
  .cases h
 grind[Px]
theorem ahO{P T}(W:bV.ok P T){k0 live a b k S t u}(C:po P k0 a S t)
 (H:∀q u,q.bu=[]->k q=some u->po P k0 b q u) (h:cont T k0 live S.nv k t=some u):po P k0 (.seq a b) S u:=by
 intro ρ x D A n;unfold cont at h;split at h
 .obtain⟨e,i,ρ1,v,I,r,s⟩:=pX (λx ρ1 E=>(C ρ x ρ1 A E).bare) (λe i ρ1 N d O B=>by
   cases e with
   |normal=>
    simp only[inl]at B⊢;rw[B];obtain⟨R,F,G,j,y,l,p⟩:=C ρ _ _ A N;cases G;exact XG λx J E=>(H i O l B ρ1 x J j.symm E).bare
   |_=>cases B;rfl) h n
  obtain⟨R,F,G,j,⟨ys,y⟩,l,p⟩:=C ρ _ _ A I;cases G
  cases e with
  |normal=>
   obtain⟨K,q,k1,k2,⟨U,V⟩,L,M⟩:=H i v l r ρ1 x D j.symm s;exact⟨K,q,k1,k2,⟨ys++U,by simp_all⟩,L,λX f c Q g=>ei (p X f c _ (M X f c Q g))⟩
  |exit id=>cases r;cases s;exact⟨.exit id,i,rfl,j,⟨ys,y⟩,l,λX f c Q g=>ei (p X f c _ g)⟩
  |ret=>cases r;cases s;exact⟨.ret,i,rfl,j,⟨ys,y⟩,l,λX f c Q g=>ei (p X f c _ g)⟩
 .split at h
  .rename_i Y Z;split at h
   .rename_i w rest hw z;cases h;simp only[bl.a_]at n
    cases m:w.a_ ρ with
    |none=>simp_all
    |some o=>
     obtain⟨e,i,ρ1,v,I,r,s⟩:=pX (λx ρ1 E=>(C ρ x ρ1 A E).bare) (λe i ρ1 N d O B=>yq B) hw m;obtain⟨R,F,G,j,⟨ys,y⟩,l,p⟩:=C ρ _ _ A I;cases G
     cases e with
     |normal=>
      subst y;obtain⟨as,aa,j1,j2,j3,j4⟩:=sW W A j l r s;subst j1;rw[m]at n;obtain⟨K,q,k1,k2,⟨U,V⟩,L,M⟩:=H Y rest j2 z _ x D j3.symm n;exact⟨K,q,k1,k2,⟨_,by rw[V,dI]⟩,L,λX f c Q g=>ei (p X f c _ (Uo (j4 X f c) (M X f c Q g)))⟩
     |exit id=>
      cases r;cases s;rw[m]at n;cases n;exact⟨.exit id,i,rfl,j,⟨ys,y⟩,l,λX f c Q g=>ei (p X f c _ g)⟩
     |ret=>
      cases r;cases s;rw[m]at n;cases n;exact⟨.ret,i,rfl,j,⟨ys,y⟩,l,λX f c Q g=>ei (p X f c _ g)⟩
   .cases h
  .cases h
def Im(P:cC)(k0:Nat)(A:Fx->(Exit->bx->Prop)->bx->Prop)(S:bq)(t:bl):Prop:=∀ρ x a,ρ.length=S.nv->t.a_ ρ=some (x,a)->
 ∃e b,x=.st e b/\b.nv=a.length/\(∃ys,a=ρ++ys)/\b.bu=[]/\∀X:Fx,X.P=P->X.k0=k0->∀Q:Exit->bx->Prop,Q e.to (b.a_ a)->A X Q (S.a_ ρ)
theorem ahJ{P T}(hT:bV.ok P T){k0 live a A}(I:∀X Q st st',Le X st st'->A X Q st'->A X Q st){k S t u}(D:po P k0 a S t)
 (J:∀p u,p.bu=[]->k p=some u->Im P k0 A p u) (h:cont T k0 live S.nv k t=some u):Im P k0 (λX Q=>Aw X a (C1 (A X Q) Q)) S u:=by
 intro ρ x E B m;unfold cont at h;split at h
 .obtain⟨e,g,ρ1,v,K,r,s⟩:=pX (λx ρ1 F=>(D ρ x ρ1 B F).bare) (λe g ρ1 R d U C=>by
   cases e with
   |normal=>
    simp only[inl]at C⊢;rw[C];obtain⟨V,G,H,i,y,j,n⟩:=D ρ _ _ B R;cases H;exact XG λx L F=>(by obtain⟨e,W,q,_⟩:=J g U j C ρ1 x L i.symm F;simp_all)
   |_=>cases C;rfl) h m
  obtain⟨V,G,H,i,⟨ys,y⟩,j,n⟩:=D ρ _ _ B K;cases H
  cases e with
  |normal=>
   obtain⟨M,p,k1,k2,⟨Y,Z⟩,N,O⟩:=J g v j r ρ1 x E i.symm s;exact⟨M,p,k1,k2,⟨ys++Y,by simp_all⟩,N,λX c b Q f=>n X c b _ (O X c b Q f)⟩
  |exit id=>cases r;cases s;exact⟨.exit id,g,rfl,i,⟨ys,y⟩,j,λX c b Q f=>n X c b _ f⟩
  |ret=>cases r;cases s;exact⟨.ret,g,rfl,i,⟨ys,y⟩,j,λX c b Q f=>n X c b _ f⟩
 .split at h
  .rename_i W aa;split at h
   .rename_i w rest hw z;cases h;simp only[bl.a_]at m
    cases l:w.a_ ρ with
    |none=>simp_all
    |some o=>
     obtain⟨e,g,ρ1,v,K,r,s⟩:=pX (λx ρ1 F=>(D ρ x ρ1 B F).bare) (λe g ρ1 R d U C=>yq C) hw l;obtain⟨V,G,H,i,⟨ys,y⟩,j,n⟩:=D ρ _ _ B K;cases H
     cases e with
     |normal=>
      subst y;obtain⟨as,ab,j1,j2,j3,j4⟩:=sW hT B i j r s;subst j1;rw[l]at m;obtain⟨M,p,k1,k2,⟨Y,Z⟩,N,O⟩:=J W rest j2 z _ x E j3.symm m;exact⟨M,p,k1,k2,⟨_,by rw[Z,dI]⟩,N,λX c b Q f=>n X c b _ (I X _ _ _ (j4 X c b) (O X c b Q f))⟩
     |exit id=>
      cases r;cases s;rw[l]at m;cases m;exact⟨.exit id,g,rfl,i,⟨ys,y⟩,j,λX c b Q f=>n X c b _ f⟩
     |ret=>
      cases r;cases s;rw[l]at m;cases m;exact⟨.ret,g,rfl,i,⟨ys,y⟩,j,λX c b Q f=>n X c b _ f⟩
   .cases h
  .cases h
theorem Xh{P:cC}{T:bV}(d:bV.ok P T){k0 live:Nat}{c:Code}{body:bq->Option bl}(e:∀a u,a.bu=[]->body a=some u->po P k0 c a u):
 ∀(n:Nat){S:bq}{u:bl},S.bu=[]->Cd T k0 live body n S=some u->Im P k0 (λX Q=>rS X c n Q) S u
 |0,_,_,_,h=>by cases h
 |n+1,S,u,f,h=>by
  simp only[Cd]at h;split at h
  .rename_i t g;split at h
   .exact ahJ d (A:=λX Q=>rS X c n Q) (λX Q st st' i h=>OZ i h) (e S t f g) (λa u b j=>Xh d e n b j) h
   .cases h
  .cases h
theorem aiY{P T}(C:bV.ok P T){k0 c S j t u as n}(J:S.bu=[])(D:po P k0 c j t)
 (K:jmp T k0 S.nv j 0 .normal S=some (.bp (.jump n as))) (M:t.bind (jmp T k0 S.nv j) 0=some u):po P k0 (.loop c) S (.loop as u):=by
 intro ρ x b E O;obtain⟨N,F⟩:=w9 O;obtain⟨R,U,w,i2,r,i4⟩:=sW (ys:=[]) C E (by simp_all) J K rfl;injection w with w y
 cases w;rw[<-y]at r i4;simp only[fW]at r i4;have step:∀(n:Nat)(a:List L),j.nv=(ρ++a).length->gD (λa=>nK (u.a_ (ρ++a))) (n+1) a=some (x,b)->
  ∃e f ys,f.nv=(ρ++a++ys).length/\f.bu=[]/\
   (∀X:Fx,X.P=P->X.k0=k0->∀Q:Exit->bx->Prop,Q e.to (f.a_ (ρ++a++ys))->Aw X c Q (j.a_ (ρ++a)))/\
   ((e=.normal/\∃a',j.nv=(ρ++a').length/\gD (λa=>nK (u.a_ (ρ++a))) n a'=some (x,b)/\∀X:Fx,X.P=P->X.k0=k0->Le X (f.a_ (ρ++a++ys)) (j.a_ (ρ++a')))\/
    (e≠ .normal/\x=.st e f/\b=ρ++a++ys)):=by
  intro n a l g;simp only[gD]at g
  cases i:u.a_ (ρ++a)with
  |none=>rw[i]at g;cases g
  |some o=>
   obtain⟨e,f,ρ1,v,z,q,m⟩:=pX (λx ρ1 V=>(D (ρ++a) x ρ1 l.symm V).bare) (λe f ρ1 ht d u1 W=>yq W) M i;obtain⟨e',Y,Z,g2,⟨ys,g3⟩,G,g5⟩:=D (ρ++a) _ _ l.symm z;cases Z;subst g3;refine⟨e,f,ys,g2,G,g5,?_⟩
   cases e with
   |normal=>
    rw[dI]at m;obtain⟨as,aa,j1,j2,j3,j4⟩:=sW C E (by simp_all) G q m;subst j1;rw[i]at g;exact .inl ⟨rfl,_,j3,g,by simp_all⟩
   |exit id=>cases q;cases m;rw[i]at g;cases g;simp_all
   |ret=>cases q;cases m;rw[i]at g;cases g;simp_all
 have fin:∀(n:Nat)(a:List L),j.nv=(ρ++a).length->gD (λa=>nK (u.a_ (ρ++a))) n a=some (x,b)->
  ∃e f,x=.st e f/\f.nv=b.length/\(∃ys,b=ρ++ys)/\f.bu=[]/\e≠ .normal:=by
  intro n
  induction n with
  |zero=>intro a _ h;cases h
  |succ n ih=>
   intro a l g;obtain⟨e,f,ys,z,q,_,A⟩:=step n a l g;rcases A with⟨_,a',k1,k2,_⟩| ⟨k1,k2,s⟩
   .exact ih a' k1 k2
   grind
 obtain⟨e,f,H,f2,f3,f4,f5⟩:=fin N _ r F;refine⟨e,f,H,f2,f3,f4,λX B k Q I=>?_⟩;refine ags (α:=Nat×List L) (λp st=>st=j.a_ (ρ++p.2)/\j.nv=(ρ++p.2).length/\gD (λa=>nK (u.a_ (ρ++a))) p.1 p.2=some (x,b)) (λp=>p.1)
  (x0:=(N,as.map (At.ev ρ))) ⟨_,i4 X B k,rfl,r,F⟩ ?_
 rintro⟨n,a⟩ st ⟨rfl,l,g⟩
 cases n with
 |zero=>cases g
 |succ n=>
  obtain⟨e1,S2,ys,z,q,m,A⟩:=step n a l g;refine m X B k _ ?_;rcases A with⟨rfl,a',k1,k2,s⟩| ⟨k1,k2,s⟩
  .exact⟨(n,a'),_,s X B k,⟨rfl,k1,k2⟩,pV n⟩
  .subst H;cases k2;subst s
   cases e with
   |normal=>simp_all
   |exit id=>exact I
   |ret=>exact I
theorem X0{P:cC}{T:bV}(d:bV.ok P T){k0 live:Nat}{c:Code}{body:bq->Option bl}{S:bq}(e:S.bu=[])(f:∀a u,a.bu=[]->body a=some u->po P k0 c a u):
 ∀{fuel:Nat}{g:List bq}{u:bl},CI T k0 live body S fuel g=some u->po P k0 (.loop c) S u
 |0,_,_,h=>by cases h
 |fuel + 1,g,u,h=>by
  simp only[CI]at h;split at h
  .rename_i i j;split at h
   .rename_i t k;split at h
    .rename_i n as w l m;split at h
     .rename_i b;cases h;exact aiY d e (f i t (by simpa using b) k) l m
     .cases h
    .exact X0 d e f h
   .cases h
  .cases h
theorem lB{P:cC}{T:bV}{C:eP}{k0:Nat}(o:bV.ok P T)(B:eP.ok P C)(D:P.follows .mixedOrders=true):∀(c:Code){n:Nat}{ex:List (Nat×Nat)}{r:Nat}{S:bq}{u:bl},
 S.bu=[]->exec T C k0 c n ex r S=some u->po P k0 c S u
 |.skip,n,ex,r,S,u,m,h=>by
  cases h;intro ρ x f k i;cases i;exact⟨.normal,S,rfl,k.symm,⟨[],by simp⟩,m,λX _ _ Q j=>qa j⟩
 |.exit id,n,ex,r,S,u,m,h=>by
  cases h;intro ρ x f k i;cases i;exact⟨.exit id,S,rfl,k.symm,⟨[],by simp⟩,m,λX _ _ Q j=>aoF j⟩
 |.ret,n,ex,r,S,u,m,h=>by
  cases h;intro ρ x f k i;cases i;exact⟨.ret,S,rfl,k.symm,⟨[],by simp⟩,m,λX _ _ Q j=>nZ j⟩
 |.region id ops draw,n,ex,r,S,u,m,h=>by
  intro ρ x f k i;exact axq o B D h k i
 |.seq a b,n,ex,r,S,u,m,h=>by
  simp only[exec]at h;split at h
  .rename_i t G;exact ahO o (lB o B D a m G) (λO u E J=>lB o B D b E J) h
  .cases h
 |.block id c,n,ex,r,S,u,m,h=>by
  simp only[exec]at h;split at h
  .rename_i t G;intro ρ x f k i;have F:=lB o B D c m G;obtain⟨e,I,ρ1,v,K,M,R⟩:=pX (λx ρ1 U=>(F ρ x ρ1 k U).bare) (λe I ρ1 G d V W=>by cases W;rfl) h i;obtain⟨e',Y,p,q,s,w,z⟩:=F ρ _ _ k K;cases p;cases M;cases R;refine⟨_,I,rfl,q,s,w,λX A g Q j=>VB (z X A g _ ?_)⟩
   cases e with
   |normal=>exact j
   |ret=>exact j
   |exit N=>
    simp only[Ex.to,Mz];by_cases hid:N=id
    .subst hid;rw[bA rfl];rw[bA rfl]at j;exact j
    .rw[bH hid];rw[bH (by simp_all)]at j;exact j
  .cases h
 |.scope c,n,ex,r,S,u,m,h=>by
  intro ρ x f k i;obtain⟨e,I,p,q,s,w,z⟩:=lB o B D c m h ρ x f k i;refine⟨e,I,p,q,s,w,λX A g Q j=>apX (z X A g _ ?_)⟩;cases e<;>exact j
 |.label l,n,ex,r,S,u,m,h=>by
  cases h;intro ρ x f k i;cases i;exact⟨.normal,S,rfl,k.symm,⟨[],by simp⟩,m,λX _ _ Q j=>alO j⟩
 |.loop c,n,ex,r,S,u,m,h=>by
  simp only[exec]at h;split at h
  .rename_i v Z;cases h;exact X0 o m (λO u E J=>lB o B D c E J) Z
  .intro ρ x f k i;obtain⟨e,I,p,q,s,w,z⟩:=Xh o (λO u E J=>lB o B D c E J) 600 m h ρ x f k i;exact⟨e,I,p,q,s,w,λX A g Q j=>P9 (z X A g Q j)⟩
 |.cond c a b,n,ex,r,S,u,m,h=>by
  simp only[exec]at h;have key:∀(y:At),S.arg c=some (.v (.c (.p .bool y)))->∀ρ,(S.a_ ρ).arg c=some (.sc (.bool (y.ev ρ).ez)):=λy hy ρ=>bq.cG ρ hy
  split at h
  .rename_i F;intro ρ x f k i;obtain⟨e,H,p,q,s,w,z⟩:=lB o B D a m h ρ x f k i;exact⟨e,H,p,q,s,w,λX A g Q j=>nC (t:=true) (key _ F ρ) (λ_=>z X A g Q j) (λh=>by cases h)⟩
  .rename_i F;intro ρ x f k i;obtain⟨e,H,p,q,s,w,z⟩:=lB o B D b m h ρ x f k i;exact⟨e,H,p,q,s,w,λX A g Q j=>nC (t:=false) (key _ F ρ) (λh=>by cases h) (λ_=>z X A g Q j)⟩
  .rename_i y _ _ F;split at h
   .rename_i V u2 K M;cases h;intro ρ x f k i;simp only[bl.a_]at i;split at i
    .rename_i G;obtain⟨e,H,p,q,s,w,z⟩:=lB o B D a m K ρ x f k i;exact⟨e,H,p,q,s,w,λX A g Q j=>nC (key _ F ρ) (λ_=>z X A g Q j) (λh=>by rw[G]at h;cases h)⟩
    .rename_i G;obtain⟨e,H,p,q,s,w,z⟩:=lB o B D b m M ρ x f k i;exact⟨e,H,p,q,s,w,λX A g Q j=>nC (key _ F ρ) (λh=>absurd h G) (λ_=>z X A g Q j)⟩
   .cases h
  .cases h
 |.rangeFunc ..,_,_,_,_,_,_,h=>by cases h
 |.goto l,n,ex,r,S,u,m,h=>by
  cases h;intro ρ x f k i;simp[bl.a_,Nd.ev,At.ev,L.br]at i
 |.refuse ..,_,_,_,_,_,_,h=>by cases h
def n9:List ResultVar->Nat
 |[]=>0
 |.tmp t::r=>(1<<<t)|||n9 r
 |.cell t _::r=>(1<<<t)|||n9 r
def bl.p8:bl->List bq
 |.bp (.st .normal S)=>[S]
 |.bp (.st .ret S)=>[S]
 |.bp _=>[]
 |.op _ k=>k.p8
 |.ite _ a b=>a.p8++b.p8
 |.join a b=>a.p8++b.p8
 |.loop _ b=>b.p8
def fin(T:bV)(k0 a:Nat)(b:bq)(d:Nat)(e:Ex)(S:bq):Option bl:=match e with
 |.exit _=>none
 |_=>jmp T k0 a b d .normal S
def SV.one:SV->Option bK
 |.v x=>some x
 |.bL _=>none
def tM(T:bV)(S:bq):ResultVar->Option bK
 |.tmp t=>(S.tmps[t]?).bind SV.one
 |.cell t ty=>match S.tmps[t]? with
  |some (.v (.c (.ptr n off)))=>match List.lookup n S.heap,List.lookup ty T with
   |some (.box cs),some r=>(Ev r (cs.drop off)).bind SV.one
   |_,_=>none
  |_=>none
def aej:List bK->SV
 |[x]=>.v x
 |xs=>.bL xs
def yS(T:bV)(rs:List ResultVar)(S:bq):Option SV:=(rs.mapM (tM T S)).map aej
theorem one_den{ρ}{v:SV}{x}(h:v.one=some x):(v.a_ ρ).one=some (x.a_ ρ):=by
 cases v with
 |v y=>cases h;rfl
 |bL=>cases h
theorem awy{P T}(e:bV.ok P T){S ρ a x}(h:tM T S a=some x):oi P (S.a_ ρ) a=some (x.a_ ρ):=by
 have d:∀t:Nat,(S.a_ ρ).tmps[t]?=(S.tmps[t]?).map (SV.a_ ρ):=λt=>by simp[bq.a_]
 cases a with
 |tmp t=>
  simp only[tM,iy]at h;obtain⟨v,b,c⟩:=h;simp only[oi,d,b,b_,rj,one_den c]
 |cell t ty=>
  simp only[tM]at h;split at h
  .rename_i n off b;split at h
   .rename_i cs r c f;simp only[iy]at h;obtain⟨v,g,i⟩:=h;have:=e _ _ f;subst this;have j:=O9 ρ g;have k:(S.a_ ρ).heap.lookup n=some (.box (cs.map (SC.a_ ρ))):=by
     rw[eK,c];rfl
    simp only[oi,d,b,b_,SV.a_,bK.a_,SC.a_,k];rw[<-nR,j];exact one_den i
   .cases h
  .cases h
theorem J1{P T}(c:bV.ok P T){S ρ rs x}(h:yS T rs S=some x):tW P rs (S.a_ ρ)=some (x.a_ ρ):=by
 simp only[yS,bY]at h;obtain⟨xs,a,rfl⟩:=h;have key:∀{rs:List ResultVar}{xs:List bK},rs.mapM (tM T S)=some xs->rs.mapM (oi P (S.a_ ρ))=some (xs.map (bK.a_ ρ)):=by
  intro rs
  induction rs with
  |nil=>simp_all
  |cons r rs ih=>
   intro xs h;rw[rk]at h⊢
   cases a:tM T S r with
   |none=>simp_all
   |some y=>
    cases b:rs.mapM (tM T S)with
    |none=>simp_all
    |some ys=>
     rw[a,b]at h;cases h;rw[awy c a,ih b];rfl
 simp only[tW,key a,b_]
 cases xs with
 |nil=>rfl
 |cons x xs=>
  cases xs with
  |nil=>rfl
  |cons=>rfl
structure vE where
 yY:bl
 res:SV
 out:cU
 jz:Nat
def wM(n a:Nat)(params:List bK)(H:List SB):bq:=⟨params.map SV.v++List.replicate (n-params.length) (.bL []),H.zipIdx.map λx=>(x.2,x.1),[],H.length,a⟩
def SC.to(f:Nat->Nat):SC->SC
 |.own n=>.own (f n)
 |.sub n a b=>.sub (f n) a b
 |.ptr n o=>.ptr (f n) o
 |.ia n o c m i=>.ia (f n) o c m i
 |.dH n i j=>.dH (f n) i j
 |.fn g d=>.fn g (d.map f)
 |.mp n=>.mp (f n)
 |c=>c
def bq.order(k0:Nat)(S:bq):bq:=
 let a:=S.tmps.filterMap λx=>match x with
  |.v (.c (.ptr n _))=>if k0<=n then some n else none
  |_=>none
 let h:=(List.range (S.next-k0)).map (· +k0)
 let d:=h.filter (λn=> !a.contains n)++h.filter (λn=>a.contains n)
 let f:=λn=>if n<k0 then n else k0+(d.findIdx (· ==n))
 {S with tmps:=S.tmps.map (SV.fk (SC.to f)),heap:=S.heap.map λx=>(f x.1,x.2.fk (SC.to f) id)}
def reach(h:cU):Nat->List Nat->List Nat
 |0,a=>a
 |fuel+1,a=>reach h fuel (a++(a.flatMap λn=>match List.lookup n h with
  |some (.box cs)=>(cs.flatMap SC.names).filter λm=> !a.contains m
  |_=>[]).eraseDups)
def LQ(T:bV)(C:eP)(c:Code)(n:Nat)(rs:List ResultVar)(a:Nat)(params:List bK)(H:List SB):Option vE:=
 match exec T C H.length c (n9 rs) [] (n9 rs) (wM n a params H)with
 |some t=>match(merge (n9 rs) H.length a t.p8).map (bq.order H.length)with
  |some b=>match t.bind (fin T H.length a b) 0,yS T rs b with
   |some u,some r=>some ⟨u,r,b.heap.filter (λx=>(reach b.heap 4 (List.range H.length++r.names)).contains x.1),b.nv-a⟩
   |_,_=>none
  |none=>none
 |none=>none
def fQ(o:Out):Option (List L):=match o with
 |some (.jump _ as,ρ)=>some (as.map (At.ev ρ))
 |_=>none
def vE.sig(o:vE)(f:FuncId)(a:Nat)(params:List bK)(H:List SB)(F:List L->Option (List L))(d:Nat):bw:=⟨f,params,H,a,o.jz,o.res,o.out,F,d⟩
theorem mr{X c Q st}(h:Aw X c (λe st=>∃st',Le X st st'/\Q e st') st):Aw X c Q st:=λa w ht=>
 wp_mono (h a w ht) λ_ _ _⟨_,⟨st',h1,h2⟩,h3⟩=>⟨st',h2,h1 _ _ h3⟩
theorem aex{n a params H ρ}:(wM n a params H).a_ ρ=iH n (params.map (bK.a_ ρ)) (H.map (SB.a_ ρ)):=by
 unfold wM iH bq.a_;congr 1
 .simp only[dE,gp,Gv,bD];rfl
 .simp only[cU.a_,hp,gp,List.zipIdx_map];rfl
 .simp
theorem OU{T k0 a b d e S c ρ1}(h:fin T k0 a b d e S=some c):c.a_ ρ1=((fin T k0 a b 0 e S).bind (·.a_ ρ1)).map (lift d):=by
 cases e with
 |exit=>cases h
 |_=>
  simp only[fin]at h⊢;exact yq h
theorem zh{g:Nat->Bool}{n b}:∀{h:cU},List.lookup n (h.filter λx=>g x.1)=some b->List.lookup n h=some b
 |[],a=>by cases a
 |(k,f)::h,a=>by
  rw[List.filter_cons]at a;rw[fD];split at a
  .rw[fD]at a;split
   .simp_all
   .rename_i c;rw[c]at a;exact zh a
  .rename_i d;split
   .rename_i c;simp at c;subst c;exfalso;have:∀{h:cU},List.lookup n (h.filter λx=>g x.1)=some b->g n=true:=by
     intro h e;have:=Gw.1 (Ar e);exact this.2
    exact d (this a)
   .exact zh a
theorem agd{P T C}(p:bV.ok P T)(J:eP.ok P C)(K:P.follows .mixedOrders=true){f fn c}(q:P.funcs[f]?=some fn) (hname:(fn.name== "runtime.NumGoroutine")=false)
 (L:fn.body=some c) {n} (M:fn.ntmps=n) {rs} (s:fn.results=rs.toArray) {g} {params} {H} {o} (h:LQ T C c n rs g params H=some o)
 {F} (N:∀ls,F ls=fQ (o.yY.a_ ls)) (w):(o.sig f g params H F w).ok P:=by
 intro ls os B a O;unfold LQ at h;split at h
 .rename_i t D;split at h
  .rename_i Q R;split at h
   .rename_i u r U V;cases h;have l:=lB p J K c (S:=wM n g params H) rfl D;replace a:F ls=some os:=a;rw[N]at a;simp only[fQ]at a;split at a
    .rename_i k as y W;cases a;have m:ls.length=(wM n g params H).nv:=B;obtain⟨e,E,ρ1,v,Y,G,Z⟩:=pX (λx ρ1 hx=>(l ls x ρ1 m hx).bare) (λe E ρ1 D d u1 q=>OU q) U W;obtain⟨e',aa,g1,g2,⟨ys,g3⟩,g4,g5⟩:=l ls _ _ m Y;cases g1;subst g3;have key:(e=.normal\/e=.ret)/\∀X:Fx,X.P=P->X.k0=H.length->Le X (E.a_ (ls++ys)) (Q.a_ (ls++as.map (At.ev y))):=by
      cases e with
      |exit=>cases G
      |_=>
       obtain⟨ab,zs,j1,_,_,j4⟩:=sW p B g2 g4 G Z;cases j1;exact⟨by simp,j4⟩
     obtain⟨he,z⟩:=key;refine eC.intro q hname L M s (λX I i=>?_);rw[bD]at i;rw[<-aex];refine mr (g5 X I i _ ⟨_,z X I i,?_⟩);refine⟨?_,J1 p V,λn b j=>?_⟩;rotate_left
     .rw[eK];rw[cU.qs]at j;simp only[bY]at j;obtain⟨b0,A,rfl⟩:=j;rw[zh A];rfl
     rcases he with rfl|rfl<;>trivial
    .cases a
   .cases h
  .cases h
 .cases h
def zc(T:bV)(C:eP)(fn:Func)(a:Nat)(params:List bK)(H:List SB):Option vE:=match fn.body with
 |some c=>LQ T C c fn.ntmps fn.results.toList a params H
 |none=>none
theorem avx{P T C}(d:bV.ok P T)(e:eP.ok P C)(g:P.follows .mixedOrders=true){f fn}(i:P.funcs[f]?=some fn) (hname:(fn.name== "runtime.NumGoroutine")=false)
 {a} {params} {H} {o} (h:zc T C fn a params H=some o) {F} (j:∀ls,F ls=fQ (o.yY.a_ ls)) (b):(o.sig f a params H F b).ok P:=by
 unfold zc at h;split at h
 .rename_i c k;exact agd d e g i hname k rfl (by simp) h j b
 .cases h
def Fo(x:bl):List L->Option (List L):=λls=>fQ (x.a_ ls)
end
end
end Go.Proofs.YtiikkkhcolcebaaGreatDoor
