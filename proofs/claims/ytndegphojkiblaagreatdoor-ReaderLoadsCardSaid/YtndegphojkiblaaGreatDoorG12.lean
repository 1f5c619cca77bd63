/- Towards the last file's theorem: part 12. -/
import Derived.Test.YtndegphojkiblaaGreatDoorG11
set_option linter.all false
set_option maxHeartbeats 4000000
set_option maxRecDepth 100000
namespace Go.Proofs.YtndegphojkiblaaGreatDoor
noncomputable section
section
open Go.RowKit
def abm:aM→Nat
 | .tmp t=>1<<<t
 |_=>0
def alU (n:Nat) (o:Oper):Nat:=
 let n:=match o.dst,o.guard with
  |some t,none=>n^^^ (n&&& (1<<<t))
  |_,_=>n
 o.op.operands.toList.foldl (fun n x=>n|||abm x) n
def lv:Code→Nat→List (Nat×Nat)→Nat→Nat
 | .skip,n,_,_=>n
 | .region _ ops _,n,_,_=>ops.toList.reverse.foldl alU n
 | .seq a b,n,ex,r=>lv a (lv b n ex r) ex r
 | .cond c a b,n,ex,r=>abm c|||lv a n ex r|||lv b n ex r
 | .block id c,n,ex,r=>lv c n ((id,n)::ex) r
 | .loop c,_,ex,r=>lv c 0 ex r
 | .exit id,_,ex,_=> (List.lookup id ex).getD 0
 | .ret,_,_,r=>r
 | .scope c,n,ex,r=>lv c n ex r
 | .label _,n,_,_=>n
 |_,_,_,_=>0
structure MG where
 np:Nat
 ps:List (List At×Nat)
 ns:List (List (Option Nat)×Nat)
 next:Nat
def aby:List At→List At→Bool
 |[],[]=>true
 |x::xs,y::ys=>x.same y&&aby xs ys
 |_,_=>false
def FU (aI:Nat) (xs:List At) (g:MG):At×MG:=match xs with
 | x::r=>if x.in aI&&r.all (x.same ·)then(x,g)
  else match g.ps.find? (fun p=>aby p.1 xs)with
   |some p=> (.v (aI+p.2),g)
   |none=> (.v (aI+g.np),{g with np:=g.np+1,ps:=(xs,g.np)::g.ps})
 |[]=> (.b false,g)
def Ob (k0:Nat) (xs:List (Option Nat)) (g:MG):Option (Nat×MG):=
 match g.ns.find? (fun p=>p.1==xs)with
 |some p=>some (p.2,g)
 | none=>
  if g.ns.any fun p=> (p.1.zip xs).any fun ab=>ab.1.isSome&&ab.1==ab.2 then none
  else match xs with
   |some m::r=>if decide (m<k0)&&r.all (· ==some m)then some (m,{g with ns:=(xs,m)::g.ns})else some (g.next,{g with ns:=(xs,g.next)::g.ns,next:=g.next+1})
   |_=>some (g.next,{g with ns:=(xs,g.next)::g.ns,next:=g.next+1})
def T4 (k0:Nat):List (List (Option Nat))→MG→Option (List Nat×MG)
 |[],g=>some ([],g)
 | xs::r,g=>match Ob k0 xs g with
  |some (n,g)=>match T4 k0 r g with
   |some (ns,g)=>some (n::ns,g)
   |none=>none
  |none=>none
def aei:List SC→Option Kd
 |[]=>none
 | .p k _::_=>some k
 |_::r=>aei r
def L0:SC→Bool
 | .nil=>true
 | .sub _ (.i 0) (.i 0)=>true
 |_=>false
def Xp (_k0:Nat) (cs:List SC):Bool:=cs.all (fun c=>match c with| .nil=>true| .own _=>true| .sub _ (.i 0) _=>true|_=>false)&&cs.any (fun c=>match c with| .sub _ _ _=>true|_=>false)&&cs.any (fun c=>match c with| .sub _ _ _=>false|_=>true)
def aDg (k0:Nat) (cs:List SC):Option Kd:=if cs.all L0||Xp k0 cs then none else match aei cs with
 |some k=>some k
 |none=>if cs.any (fun c=>match c with| .sub _ _ _=>true|_=>false)&&cs.any (fun c=>match c with| .sub _ _ _=>false|_=>true)then some .sl else none
def column:Nat→List (List Nat)→List (List (Option Nat))
 |0,_=> []
 |n+1,xs=>xs.map List.head?::column n (xs.map List.tail)
def mC (k0 aI:Nat) (hs:List cb) (cs:List SC) (g:MG):SC×MG:=
 match aDg k0 cs with
 | some k=>match(cs.zip hs).mapM (fun (x:SC×cb)=>match x.1 with
   | .p k' x=>if k=k' then some x else none
   | .own n=>if k= .sl then match List.lookup n x.2 with
     |some (.row _ y)=>some y
     |_=>none
    else none
   | .nil=>if k= .sl then some .r0 else none
   | .sub n _ _=>if k= .sl then some (.v (aI+1000000+1000*g.np+n))else none
   |_=>none)with
  |some xs=>let(x,g):=FU aI xs g; (.p k x,g)
  |none=> (.dead,g)
 | none=>
  let named (f:SC→Option (Option Nat)) (k:Nat→MG→SC×MG):SC×MG:=match cs.mapM f with
   |some ns=>match Ob k0 ns g with
    |some (n,g)=>k n g
    |none=> (.dead,g)
   |none=> (.dead,g)
  let ats (f:SC→At) (g:MG):At×MG:=FU aI (cs.map f) g
  if cs.all (fun c=>match c with| .nil=>true|_=>false)then(.nil,g)
  else if Xp k0 cs&& !cs.all L0 then
   named (fun c=>match c with| .own n=>some (some n)| .sub n _ _=>some (some n)| .nil=>some none|_=>none) fun n g=> (.own n,g)
  else if cs.any (fun c=>match c with| .own _=>true|_=>false)then
   named (fun c=>match c with| .own n=>some (some n)| .nil=>some none|_=>none) fun n g=> (.own n,g)
  else if cs.all L0 then named (fun c=>match c with| .sub n _ _=>some (some n)| .nil=>some none|_=>none) fun n g=> (.sub n (.i 0) (.i 0),g)
  else match cs with
   | .sub _ _ _::_=>named (fun c=>match c with| .sub n _ _=>some (some n)|_=>none) fun n g=>
    let(a,g):=ats (fun c=>match c with| .sub _ a _=>a|_=> .b false) g
    let(b,g):=ats (fun c=>match c with| .sub _ _ b=>b|_=> .b false) g
    (.sub n a b,g)
   | .ptr _ o::_=>named (fun c=>match c with| .ptr n o'=>if o=o' then some (some n)else none|_=>none) fun n g=> (.ptr n o,g)
   | .gg _ o ct m _::_=>named (fun c=>match c with| .gg n o' c' m' _=>if o=o'∧ct=c'∧m=m' then some (some n)else none|_=>none) fun n g=>
    let(i,g):=ats (fun c=>match c with| .gg _ _ _ _ i=>i|_=> .b false) g
    (.gg n o ct m i,g)
   | .cB _ _ j::_=>named (fun c=>match c with| .cB n _ j'=>if j=j' then some (some n)else none|_=>none) fun n g=>
    let(i,g):=ats (fun c=>match c with| .cB _ i _=>i|_=> .b false) g
    (.cB n i j,g)
   | .ref _ j::_=>match cs.mapM (fun c=>match c with| .ref x j'=>if j=j' then some x else none|_=>none)with
    |some xs=>let(x,g):=FU aI xs g; (.ref x j,g)
    |none=> (.dead,g)
   | .fn f ns::_=>match cs.mapM (fun c=>match c with| .fn f' eg=>if f==f'&&eg.length==ns.length then some eg else none|_=>none)with
    |some nss=>match T4 k0 (column ns.length nss) g with
     |some (ns,g)=> (.fn f ns,g)
     |none=> (.dead,g)
    |none=> (.dead,g)
   | .mp _::_=>named (fun c=>match c with| .mp n=>some (some n)|_=>none) fun n g=> (.mp n,g)
   |_=> (.dead,g)
def OE (k0 aI:Nat) (hs:List cb):Nat→List (List SC)→MG→List SC×MG
 |0,_,g=> ([],g)
 |n+1,xss,g=>
  let(c,g):=mC k0 aI hs (xss.map fun xs=>xs.headD .dead) g
  let(cs,g):=OE k0 aI hs n (xss.map List.tail) g
  (c::cs,g)
def VQ (k0 aI:Nat) (hs:List cb) (xs:List aB) (g:MG):aB×MG:=
 match xs.mapM (fun x=>match x with| .c c=>some c|_=>none)with
 |some cs=>let(c,g):=mC k0 aI hs cs g; (.c c,g)
 | none=>match xs.mapM (fun x=>match x with| .agg cs=>some cs|_=>none)with
  | some (cs::css)=>if css.all (fun c=>c.length==cs.length)then
    let(cs,g):=OE k0 aI hs cs.length (cs::css) g; (.agg cs,g)
   else(.c .dead,g)
  |_=> (.c .dead,g)
def acM (k0 aI:Nat) (hs:List cb):Nat→List (List aB)→MG→List aB×MG
 |0,_,g=> ([],g)
 |n+1,xss,g=>
  let(c,g):=VQ k0 aI hs (xss.map fun xs=>xs.headD (.c .dead)) g
  let(cs,g):=acM k0 aI hs n (xss.map List.tail) g
  (c::cs,g)
def mV (k0 aI:Nat) (hs:List cb) (xs:List SV) (g:MG):SV×MG:=
 match xs.mapM (fun x=>match x with| .v c=>some c|_=>none)with
 |some cs=>let(c,g):=VQ k0 aI hs cs g; (.v c,g)
 | none=>match xs.mapM (fun x=>match x with| .aj cs=>some cs|_=>none)with
  | some (cs::css)=>if css.all (fun c=>c.length==cs.length)then
    let(cs,g):=acM k0 aI hs cs.length (cs::css) g; (.aj cs,g)
   else(.v (.c .dead),g)
  |_=> (.v (.c .dead),g)
def mVs (k0 aI:Nat) (hs:List cb) (live:Nat):Nat→Nat→List (List SV)→MG→List SV×MG
 |0,_,_,g=> ([],g)
 |n+1,i,xss,g=>
  let(c,g):=if live.testBit i then mV k0 aI hs (xss.map fun xs=>xs.headD (.v (.c .dead))) g else(.v (.c .dead),g)
  let(cs,g):=mVs k0 aI hs live n (i+1) (xss.map List.tail) g
  (c::cs,g)
def acP:List (Option Nat)→List cb→Option SB
 |some n::_,h::_=>List.lookup n h
 |none::r,_::hs=>acP r hs
 |_,_=>none
def mB (k0 aI:Nat) (hs:List cb) (ns:List (Option Nat)) (g:MG):Option (SB×MG):=
 match acP ns hs with
 | some (.box cs)=>match(ns.zip hs).mapM (fun (x:Option Nat×cb)=>match x.1 with
   |some n=>match List.lookup n x.2 with
    |some (.box cs')=>if cs'.length==cs.length then some cs' else none
    |_=>none
   |none=>none)with
  |some xss=>let(cs,g):=OE k0 aI hs cs.length xss g;some (.box cs,g)
  |none=>none
 | some (.row e _)=>match(ns.zip hs).mapM (fun (x:Option Nat×cb)=>match x.1 with
   |some n=>match List.lookup n x.2 with
    |some (.row e' y)=>if e==e' then some y else none
    |_=>none
   |none=>some .r0)with
  |some xs=>let(x,g):=FU aI xs g;some (.row e x,g)
  |none=>none
 | some .map=>if(ns.zip hs).all (fun (x:Option Nat×cb)=>match x.1 with
   |some n=>match List.lookup n x.2 with
    |some .map=>true
    |_=>false
   |none=>false)then some (.map,g)else none
 |none=>none
def MU (k0 aI:Nat) (hs:List cb):Nat→Nat→MG→cb→cb×MG
 |0,_,g,acc=> (acc,g)
 | fuel+1,i,g,acc=>if i<g.ns.length then
   match g.ns[g.ns.length-1-i]? with
   |some (xs,n)=>match mB k0 aI hs xs g with
    |some (b,g)=>MU k0 aI hs fuel (i+1) g ((n,b)::acc)
    |none=>MU k0 aI hs fuel (i+1) g acc
   |none=> (acc,g)
  else(acc,g)
def merge (live k0 aI:Nat) (Ss:List ag):Option ag:=match Ss with
 |[]=>none
 | S::_=>
  let hs:=Ss.map ag.heap
  let old:=((S.heap.map (·.1)).filter (fun n=>decide (n<k0))).eraseDups
  let(tmps,g):=mVs k0 aI hs live S.tmps.length 0 (Ss.map ag.tmps) ⟨0,[],[],k0⟩
  let g:=old.foldl (fun g m=>match Ob k0 (Ss.map fun _=>some m) g with
   |some (_,g)=>g
   |none=>g) g
  let(heap,g):=MU k0 aI hs 300 0 g []
  some ⟨tmps,heap.reverse,[],g.next,aI+g.np⟩
structure FG where
 as:List (Nat×At)
 ι:Ren
 Z:List Nat
def n8 (aI:Nat) (x y:At) (g:FG):FG:=match y with
 | .v j=>if aI≤j then
   (match List.lookup (j-aI) g.as with
   |some _=>g
   |none=> {g with as:=(j-aI,x)::g.as})
  else g
 |_=>g
def fN (n n':Nat) (g:FG):FG:=match List.lookup n g.ι with
 |some _=>g
 |none=> {g with ι:=(n,n')::g.ι}
def fC (D:ig) (aI:Nat) (h:cb) (c c':SC) (g:FG):FG:=match c,c' with
 | .p _ x,.p _ y=>n8 aI x y g
 | .own n,.p _ y=>match List.lookup n h with
  |some (.row _ x)=>n8 aI x y g
  |_=>g
 | .nil,.p _ y=>n8 aI .r0 y g
 | .sub n a b,.p _ y=>match D.find? (fun z=>z.1==n&&z.2.1.same a&&z.2.2.1.same b)with
  |some z=>n8 aI z.2.2.2 y g
  |none=>g
 | .nil,.own n'=>if g.Z.contains n' then g else{g with Z:=n'::g.Z}
 | .nil,.sub n' _ _=>if g.Z.contains n' then g else{g with Z:=n'::g.Z}
 | .own n,.own n'=>fN n n' g
 | .sub n a b,.sub n' a' b'=>n8 aI b b' (n8 aI a a' (fN n n' g))
 | .ptr n _,.ptr n' _=>fN n n' g
 | .gg n _ _ _ i,.gg n' _ _ _ i'=>n8 aI i i' (fN n n' g)
 | .cB n i _,.cB n' i' _=>n8 aI i i' (fN n n' g)
 | .ref x _,.ref y _=>n8 aI x y g
 | .fn _ ns,.fn _ eg=> (ns.zip eg).foldl (fun g x=>fN x.1 x.2 g) g
 | .mp n,.mp n'=>fN n n' g
 |_,_=>g
def fCs (D:ig) (aI:Nat) (h:cb) (xs ys:List SC) (g:FG):FG:=(xs.zip ys).foldl (fun g x=>fC D aI h x.1 x.2 g) g
def Um (D:ig) (aI:Nat) (h:cb) (x y:aB) (g:FG):FG:=match x,y with
 | .c x,.c y=>fC D aI h x y g
 | .agg x,.agg y=>fCs D aI h x y g
 |_,_=>g
def fV (D:ig) (aI:Nat) (h:cb) (x y:SV) (g:FG):FG:=match x,y with
 | .v x,.v y=>Um D aI h x y g
 | .aj xs,.aj ys=> (xs.zip ys).foldl (fun g x=>Um D aI h x.1 x.2 g) g
 |_,_=>g
def fB (D:ig) (aI:Nat) (h:cb) (x y:SB) (g:FG):FG:=match x,y with
 | .box xs,.box ys=>fCs D aI h xs ys g
 | .row _ x,.row _ y=>n8 aI x y g
 |_,_=>g
def MW (D:ig) (aI:Nat) (h h':cb):Nat→Nat→FG→FG
 |0,_,g=>g
 | fuel+1,i,g=>if i<g.ι.length then
   match g.ι[g.ι.length-1-i]? with
   |some (n,n')=>match List.lookup n h,List.lookup n' h' with
    |some b,some b'=>MW D aI h h' fuel (i+1) (fB D aI h b b' g)
    |_,_=>MW D aI h h' fuel (i+1) g
   |none=>g
  else g
def findLe (D:ig) (k0 aI:Nat) (S' S:ag):List At×Ren×List Nat:=
 let old:=((S'.heap.map (·.1)).filter (fun n=>decide (n<k0))).eraseDups
 let g:FG:=⟨[],old.map fun n=> (n,n),[]⟩
 let g:=(S.tmps.zip S'.tmps).foldl (fun g x=>fV D aI S.heap x.1 x.2 g) g
 let g:=MW D aI S.heap S'.heap 300 0 g
 let g:=g.Z.foldl (fun g n=>match List.lookup n S'.heap with
  |some (.row _ y)=>n8 aI .r0 y g
  |_=>g) g
 ((List.range (S'.nv-aI)).map fun p=> (List.lookup p g.as).getD (.b false),g.ι,g.Z)
end
section
open Go.RowKit
open Classical
def ad.qE:ad→List ag
 | .ar (.st .normal S)=> [S]
 | .ar _=> []
 | .op _ k=>k.qE
 | .ite _ a b=>a.qE++b.qE
 | .join a b=>a.qE++b.qE
 | .loop _ b=>b.qE
def ad.inLoop:Bool→ad→Bool
 |u,.ar (.st .normal _)=>u
 |_,.ar _=>false
 |u,.op _ k=>k.inLoop u
 |u,.ite _ a b=>a.inLoop u||b.inLoop u
 |u,.join a b=>a.inLoop u||b.inLoop u
 |_,.loop _ b=>b.inLoop true
def sC (S:ag):Nat→List (SV×SV)→List Nd×ig
 |_,[]=> ([],[])
 | m,(x,y)::r=>match x,y with
  | .v (.c (.sub n a b)),.v (.c (.p .sl _))=>match S.view m (.sub n a b)with
   |some (nds,z)=>match sC S (m+fX nds) r with
    | (us,D)=> (nds++us,(n,a,b,z)::D)
   |none=>sC S m r
  |_,_=>sC S m r
theorem Hh {S:ag} {ρ:List L}:∀{l:List (SV×SV)} {m:Nat},Sat ρ m (sC S m l).1→(sC S m l).2.ok S ρ
 |[],_,_=>fun z hz=>by cases hz
 | (x,y)::r,m,h=>by
  unfold sC at h⊢;split at h
  · rename_i n a b _;split at h
    · rename_i nds z hv;obtain⟨h1,h2⟩:=Sat.app h;intro w hw;rcases cU.1 hw with rfl|hw
      · exact rZ hv h1
      · exact Hh h2 w hw
    simp_all[Hh]
  · exact Hh h
def o7 (T:aV) (k0 aI:Nat) (S':ag) (d:Nat) (e:Ex) (S:ag):Option ad:=match e with
 | .normal=>match sC S S.nv (S.tmps.zip S'.tmps)with
  | (nds,D)=>match findLe D k0 aI S' S with
   | (as,ι,Z)=>if(uC D T k0 S S' aI as ι Z&&uV S.nv nds&& (nds.isEmpty||S.in S.nv))=true then some (nds.foldr .op (.ar (.jump d as)))else none
 |e=>some (.ar (.st e S))
def SC.cut (n:Nat) (b:At):SC→SC
 | .sub m (.i 0) b'=>if m=n then(if b'.same b then .own n else .dead)else .sub m (.i 0) b'
 |c=>if c.names.contains n then .dead else c
def SB.cut (n:Nat) (b:At):SB→SB
 | .box cs=> .box (cs.map (SC.cut n b))
 |x=>x
def ag.cut (S:ag) (n:Nat) (b:At) (e:aw) (v:At):ag:={S with
 tmps:=S.tmps.map (SV.eB (SC.cut n b))
 heap:=S.heap.map fun x=> (x.1,if x.1=n then .row e v else x.2.cut n b)}
def cutAt (k0:Nat) (h:cb):Nat→List (SV×SV)→Option (Nat×Nat×At×aw×At)
 |_,[]=>none
 | i,(x,y)::r=>match x,y with
  | .v (.c (.sub n (.i 0) b)),.v (.c (.own _))=>if k0≤n then match List.lookup n h with
    |some (.row e x)=>some (i,n,b,e,x)
    |_=>cutAt k0 h (i+1) r
   else cutAt k0 h (i+1) r
  |_,_=>cutAt k0 h (i+1) r
def S3 (k0:Nat) (S:ag) (i n:Nat) (b:At) (ty:aw) (x:At):Bool:=S.in S.nv&&uV S.nv [.tk x b]&& (match S.tmps[i]? with
 |some (.v (.c (.sub n' (.i 0) b')))=>n'==n&&b'.same b
 |_=>false)&&decide (k0≤n)&& (match List.lookup n S.heap with
 |some (.row e' x')=>e'==ty&&x'.same x
 |_=>false)
def rk (T:aV) (k0 aI:Nat) (S':ag) (d:Nat) (e:Ex) (S:ag):Option ad:=match e with
 | .normal=>match cutAt k0 S.heap 0 (S.tmps.zip S'.tmps)with
  |some (i,n,b,ty,x)=>if S3 k0 S i n b ty x=true then(o7 T k0 aI S' d .normal ((S.cut n b ty (.v S.nv)).more 1)).map (.op (.tk x b))else none
  |none=>o7 T k0 aI S' d .normal S
 |e=>o7 T k0 aI S' d e S
def SC.sw (n m:Nat):SC→SC
 | .own k=> .own (if k=n then m else k)
 | .sub k a b=> .sub (if k=n then m else k) a b
 | .ptr k o=> .ptr (if k=n then m else k) o
 | .gg k o c l i=> .gg (if k=n then m else k) o c l i
 | .cB k i j=> .cB (if k=n then m else k) i j
 | .fn f ns=> .fn f (ns.map fun k=>if k=n then m else k)
 | .mp k=> .mp (if k=n then m else k)
 |c=>c
def SB.sw (n m:Nat):SB→SB
 | .box cs=> .box (cs.map (SC.sw n m))
 |x=>x
def aFx (k0:Nat) (S S':ag):Option (ag×Ren):=match(S.tmps.zip S'.tmps).findSome? (fun x=>match x with
  | (.v (.c (.sub n (.i 0) _)),.v (.c (.own _)))=>if n<k0 then some n else none
  |_=>none)with
 | some n=>some ({S with tmps:=S.tmps.map (SV.eB (SC.sw n S.next)),heap:=S.heap.map (fun x=> (if x.1=n then S.next else x.1,x.2.sw n S.next)),next:=S.next+1},
   ((S.heap.map (·.1)).eraseDups).map fun k=> (k,if k=n then S.next else k))
 |none=>none
def jmp (T:aV) (k0 aI:Nat) (S':ag) (d:Nat) (e:Ex) (S:ag):Option ad:=match e with
 | .normal=>match aFx k0 S S' with
  |some (S1,ι)=>if uC [] T k0 S S1 S.nv [] ι []=true then rk T k0 aI S' d .normal S1 else none
  |none=>rk T k0 aI S' d .normal S
 |e=>rk T k0 aI S' d e S
def inl (k:ag→Option ad) (_:Nat) (e:Ex) (S:ag):Option ad:=match e with
 | .normal=>k S
 |e=>some (.ar (.st e S))
def cont (T:aV) (k0 live aI:Nat) (k:ag→Option ad) (t:ad):Option ad:=
 if decide (t.qE.length≤1)&& !t.inLoop false then t.bind (inl k) 0
 else match merge live k0 aI t.qE with
  |some S'=>match t.bind (jmp T k0 aI S') 0,k S' with
   |some u,some rest=>some (.join u rest)
   |_,_=>none
  |none=>none
def ad.UR:ad→Bool
 | .ar _=>true
 | .op _ k=>UR k
 |_=>false
def HM (T:aV) (k0 live:Nat) (body:ag→Option ad):Nat→ag→Option ad
 |0,_=>none
 |n+1,S=>match body S with
  |some t=>if t.UR then cont T k0 live S.nv (HM T k0 live body n) t else none
  |none=>none
def GI (T:aV) (k0 live:Nat) (body:ag→Option ad) (S:ag):Nat→List ag→Option ad
 |0,_=>none
 | fuel+1,Ss=>match merge live k0 S.nv Ss with
  | some S'=>match body S' with
   |some t=>match jmp T k0 S.nv S' 0 .normal S,t.bind (jmp T k0 S.nv S') 0 with
    |some (.ar (.jump _ as)),some u=>if S'.ao.isEmpty then some (.loop as u)else none
    |_,_=>GI T k0 live body S fuel (S::t.qE)
   |none=>none
  |none=>none
def exec (T:aV) (C:cm) (k0:Nat):Code→Nat→List (Nat×Nat)→Nat→ag→Option ad
 | .skip,_,_,_,S=>some (.ar (.st .normal S))
 | .region _ ops draw,_,_,_,S=>dG T C ops draw S
 | .seq a b,n,ex,r,S=>match exec T C k0 a (lv b n ex r) ex r S with
  |some t=>cont T k0 (lv b n ex r) S.nv (exec T C k0 b n ex r) t
  |none=>none
 | .cond c a b,n,ex,r,S=>match S.arg c with
  |some (.v (.c (.p .bool (.b true))))=>exec T C k0 a n ex r S
  |some (.v (.c (.p .bool (.b false))))=>exec T C k0 b n ex r S
  |some (.v (.c (.p .bool x)))=>match exec T C k0 a n ex r S,exec T C k0 b n ex r S with
   |some u,some v=>some (.ite x u v)
   |_,_=>none
  |_=>none
 | .block id c,n,ex,r,S=>match exec T C k0 c n ((id,n)::ex) r S with
  |some t=>t.bind (fun _ e S=>some (.ar (.st (if e= .exit id then .normal else e) S))) 0
  |none=>none
 | .loop c,_,ex,r,S=>match GI T k0 (lv c 0 ex r) (exec T C k0 c (lv c 0 ex r) ex r) S 5 [S]with
  |some u=>some u
  |none=>HM T k0 (lv c 0 ex r) (exec T C k0 c (lv c 0 ex r) ex r) 600 S
 | .exit id,_,_,_,S=>some (.ar (.st (.exit id) S))
 | .ret,_,_,_,S=>some (.ar (.st .ret S))
 | .scope c,n,ex,r,S=>exec T C k0 c n ex r S
 | .label _,_,_,_,S=>some (.ar (.st .normal S))
 |_,_,_,_,_=>none
def o9 (P:aQ) (k0:Nat) (c:Code) (S:ag) (t:ad):Prop:=∀ρ x ρ',ρ.length=S.nv→t.aa ρ=some (x,ρ')→Good P k0 c S ρ x ρ'
theorem sG {f:Nat→Ex→ag→Option ad} {t u:ad} {ρ:List L} {o:Lf×List L}
  (hb:∀x bE,t.aa ρ=some (x,bE)→∃e S,x= .st e S)
  (H:∀e S bE,t.aa ρ=some (.st e S,bE)→∀d u1,f d e S=some u1→u1.aa bE=((f 0 e S).bind (·.aa bE)).map (lift d))
  (h:t.bind f 0=some u) (hd:u.aa ρ=some o):∃e S bE v,t.aa ρ=some (.st e S,bE)∧f 0 e S=some v∧v.aa bE=some o:=by
 have h1:=qR (f:=f) (R:=fun e S bE=> (f 0 e S).bind (·.aa bE)) (t:=t) (u:=u) (d:=0) (ρ:=ρ) H h;rw[hd]at h1
 cases ht:t.aa ρ with
 |none=>rw[ht]at h1;cases h1
 | some y=>
  obtain⟨x,bE⟩:=y;obtain⟨e,S,rfl⟩:=hb x bE ht;rw[ht]at h1;simp only[after]at h1
  cases hf:f 0 e S with
  |none=>simp_all
  | some v=>
   refine⟨e,S,bE,v,rfl,hf,?_⟩;rw[hf]at h1;simp only[wJ]at h1
   cases hv:v.aa bE with
   |none=>rw[hv]at h1;cases h1
   |some z=>
    rw[hv]at h1;obtain⟨lf,lL⟩:=z;cases lf<;> (simp only[aJ,lift,gb]at h1;exact h1.symm)
theorem Good.bare {P:aQ} {k0:Nat} {c:Code} {S:ag} {ρ ρ':List L} {x:Lf} (h:Good P k0 c S ρ x ρ'):∃e S',x= .st e S':=by
 obtain⟨e,S',h1,_⟩:=h;simp_all
theorem UG {d:Nat} {o:Option (Lf×List L)} (h:∀x ρ,o=some (x,ρ)→∃e S,x= .st e S):o=o.map (lift d):=by
 cases o with
 |none=>rfl
 |some y=>
  obtain⟨x,ρ⟩:=y;obtain⟨e,S,rfl⟩:=h x ρ rfl;rfl
theorem JM {T:aV} {k0 aI:Nat} {S':ag} {d:Nat} {e:Ex} {S:ag} {u1:ad} {bE:List L} (h:o7 T k0 aI S' d e S=some u1):u1.aa bE=((o7 T k0 aI S' 0 e S).bind (·.aa bE)).map (lift d):=by
 cases e with
 |normal=>
  simp only[o7]at h⊢;split at h
  · rename_i hc;cases h;rw[au hc];simp only[wJ,HD];split
    · simp_all[ad.aa,aJ,lift]
    · rfl
  · cases h
 |_=>cases h;rfl
theorem Ja {T:aV} {k0 aI:Nat} {S':ag} {d:Nat} {e:Ex} {S:ag} {u1:ad} {bE:List L} (h:rk T k0 aI S' d e S=some u1):u1.aa bE=((rk T k0 aI S' 0 e S).bind (·.aa bE)).map (lift d):=by
 cases e with
 |normal=>
  simp only[rk]at h⊢;split at h
  · rename_i i n b ty x hcut;split at h
    · rename_i hc;rw[au hc];simp only[aW]at h;obtain⟨u,hu,rfl⟩:=h;have key:∀lL,u.aa lL=((o7 T k0 aI S' 0 .normal ((S.cut n b ty (.v S.nv)).more 1)).bind (·.aa lL)).map (lift d):=fun lL=>JM hu
      cases h0:o7 T k0 aI S' 0 .normal ((S.cut n b ty (.v S.nv)).more 1)with
      |none=>
       simp only[h0,aiJ,aiN]at key;simp only[ad.aa,key,aiN,aiJ];split<;>rfl
      |some u0=>
       simp only[h0,wJ]at key;simp only[aJ,wJ,ad.aa,key];split<;>rfl
    · cases h
  · exact JM h
 |_=>simp only[rk]at h⊢;exact JM h
theorem Gx {T:aV} {k0 aI:Nat} {S':ag} {d:Nat} {e:Ex} {S:ag} {u1:ad} {bE:List L} (h:jmp T k0 aI S' d e S=some u1):u1.aa bE=((jmp T k0 aI S' 0 e S).bind (·.aa bE)).map (lift d):=by
 cases e with
 |normal=>
  simp only[jmp]at h⊢;split at h
  · split at h
    · rename_i hc;rw[au hc];exact Ja h
    · cases h
  · exact Ja h
 |_=>simp only[jmp]at h⊢;exact Ja h
theorem aen {P:aQ} {T:aV} (hT:aV.ok P T) {k0:Nat} {S S':ag} {ρ ys:List L} {aI:Nat} (hl:ρ.length=aI) (hl2:S.nv=(ρ++ys).length) {v:ad} {o:Lf×List L} (hg:S.ao=[]) (h:o7 T k0 aI S' 0 .normal S=some v) (hd:v.aa (ρ++ys)=some o):
   ∃as zs,o=(.jump 0 as,ρ++ys++zs)∧S'.ao=[]∧S'.nv=(ρ++as.map (At.ev (ρ++ys++zs))).length∧∀X:Fx,X.P=P→X.k0=k0→Le X (S.aa (ρ++ys)) (S'.aa (ρ++as.map (At.ev (ρ++ys++zs)))):=by
 simp only[o7]at h;split at h
 · rename_i hc;cases h;simp only[bt,rV]at hc;obtain⟨⟨h1,h2⟩,h3⟩:=hc;rw[HD]at hd;split at hd
   · rename_i ρ' he;cases hd;obtain⟨zs,e1,e2⟩:=FY he;subst e1;have zf:=Jc (ys:=[]) (by simp_all) he;rw[kj,←hl2]at zf;have bW:S.aa (ρ++ys++zs)=S.aa (ρ++ys):=by
      rcases h3 with h3|h3
      · simp_all[sC,fX]
      · exact ag.ky h3 om
     have hD:=Hh (S:=S) zf;rw[e_]at hD;have:=AR hT hl hD h1 hg;rw[←e_,bW]at this;exact⟨_,zs,rfl,this⟩
   · cases hd
 · cases h
theorem SC.pa {ρ:List L} {n:Nat} {b:At} (c:SC):vR n (b.ev ρ).af.toNat (c.aa ρ) ((c.cut n b).aa ρ):=by
 have gen:∀c:SC,vR n (b.ev ρ).af.toNat (c.aa ρ) ((if c.names.contains n then SC.dead else c).aa ρ):=by
   intro c;split
   · exact .inl rfl
   · rename_i hn;exact .inr (.inl ⟨rfl,by rw[SC.mQ];simpa using hn⟩)
 unfold SC.cut;split
 · rename_i m b';split
   · rename_i hm;subst hm;split
     · rename_i hs;rw[At.mo hs];exact .inr (.inr ⟨rfl,rfl⟩)
     · exact .inl rfl
   · rename_i hm;exact .inr (.inl ⟨rfl,by simp only[SC.aa,C.names,eS];omega⟩)
 · exact gen _
theorem aB.pa {ρ:List L} {n:Nat} {b:At} (x:aB):AW n (b.ev ρ).af.toNat (x.aa ρ) ((x.eB (SC.cut n b)).aa ρ):=by
 cases x with
 |c c=>
  have:=SC.pa (ρ:=ρ) (n:=n) (b:=b) c;simp only[aB.eB,aB.aa];revert this;generalize SC.aa ρ (SC.cut n b c)=c';intro h;cases c'<;>first|trivial|exact h
 |agg cs=>
  refine⟨by simp,fun i c' hi=> ?_⟩;simp only[bO,IJ,aW,Function.comp]at hi;obtain⟨c,hc,rfl⟩:=hi;exact⟨c.aa ρ,by simp[hc],SC.pa c⟩
theorem SV.pa {ρ:List L} {n:Nat} {b:At} (x:SV):ZN n (b.ev ρ).af.toNat (x.aa ρ) ((x.eB (SC.cut n b)).aa ρ):=by
 cases x with
 |v x=>
  have:=aB.pa (ρ:=ρ) (n:=n) (b:=b) x;simp only[SV.eB,SV.aa];revert this;generalize aB.aa ρ (aB.eB (SC.cut n b) x)=y;intro h
  cases y with
  |c c=>cases c<;>first|trivial|exact h
  |agg=>exact h
 |aj xs=>
  refine⟨by simp,fun i c' hi=> ?_⟩;simp only[bO,IJ,aW,Function.comp]at hi;obtain⟨c,hc,rfl⟩:=hi;exact⟨c.aa ρ,by simp[hc],aB.pa c⟩
theorem SB.pa {ρ:List L} {n:Nat} {b:At} (x:SB):aeU n (b.ev ρ).af.toNat (x.aa ρ) ((x.cut n b).aa ρ):=by
 cases x with
 |box cs=>
  refine⟨by simp,fun i c' hi=> ?_⟩;simp only[bO,IJ,aW,Function.comp]at hi;obtain⟨c,hc,rfl⟩:=hi;exact⟨c.aa ρ,by simp[hc],SC.pa c⟩
 |row e x=>exact⟨rfl,rfl⟩
 |map=>rfl
theorem W0 {f:Nat→SB→SB} {m:Nat}:∀{h:cb},List.lookup m (h.map fun x=> (x.1,f x.1 x.2))=(List.lookup m h).map (f m)
 |[]=>rfl
 | (k,b)::h=>by
  simp only[bC,eR];split
  · simp_all
  · exact W0
theorem aBP {ρ:List L} {S:ag} {k0 n i:Nat} {b v x:At} {e:aw} (hg:S.ao=[]) (hk:k0≤n) (hi:S.tmps[i]? =some (.v (.c (.sub n (.i 0) b)))) (hl:List.lookup n S.heap=some (.row e x)) (hv:(v.ev ρ).ah=(x.ev ρ).ah.take (b.ev ρ).af.toNat):
  Ny k0 (S.aa ρ) ((S.cut n b e v).aa ρ) n (b.ev ρ).af.toNat e (x.ev ρ).ah := {
 k0:=hk
 ao:=hg
 next:=rfl
 row:=by rw[dD,hl];rfl
 told:=⟨i,by simp only[ag.aa,bO,hi];rfl⟩
 len:=by simp[ag.aa,ag.cut]
 tmps:=fun j v' hj=>by
  simp only[ag.aa,ag.cut,bO,IJ,aW,Function.comp]at hj;obtain⟨y,hy,rfl⟩:=hj;simp_all[ag.aa,SV.pa]
 heap:=fun m b' hb=>by
  rw[dD]at hb;simp only[aW]at hb;obtain⟨b0,hb0,rfl⟩:=hb;have hb0:List.lookup m (S.heap.map fun x=> (x.1,(fun m b1=>if m=n then SB.row e v else b1.cut n b) x.1 x.2))=some b0:=hb0;rw[W0 (f:=fun m b1=>if m=n then SB.row e v else b1.cut n b)]at hb0;simp only[aW]at hb0;obtain⟨b1,hb1,rfl⟩:=hb0;by_cases hm:m=n
  · left;subst hm;exact⟨rfl,by simp only[if_true,SB.aa,hv]⟩
  · right;refine⟨hm,b1.aa ρ,by rw[dD,hb1];rfl,?_⟩;simp_all[aE,SB.pa]
 }
theorem afH {P:aQ} {T:aV} (hT:aV.ok P T) {k0:Nat} {S S':ag} {ρ ys:List L} {aI:Nat} (hl:ρ.length=aI) (hl2:S.nv=(ρ++ys).length) {v:ad} {o:Lf×List L} (hg:S.ao=[]) (h:rk T k0 aI S' 0 .normal S=some v) (hd:v.aa (ρ++ys)=some o):
   ∃as zs,o=(.jump 0 as,ρ++ys++zs)∧S'.ao=[]∧S'.nv=(ρ++as.map (At.ev (ρ++ys++zs))).length∧∀X:Fx,X.P=P→X.k0=k0→Le X (S.aa (ρ++ys)) (S'.aa (ρ++as.map (At.ev (ρ++ys++zs)))):=by
 simp only[rk]at h;split at h
 · rename_i i n b ty x hcut;split at h
   · rename_i hc;simp only[S3,bt,cg]at hc;obtain⟨⟨⟨⟨c1,c2⟩,c3⟩,c4⟩,c5⟩:=hc;simp only[aW]at h;obtain⟨u,hu,rfl⟩:=h;have hi:S.tmps[i]? =some (.v (.c (.sub n (.i 0) b))):=by
       split at c3
       · rename_i n' b' hx;simp only[bt,beq_iff_eq]at c3;obtain⟨rfl,hs⟩:=c3;rw[hx,At.mo hs]
       · cases c3
     have hlk:List.lookup n S.heap=some (.row ty x):=by
       split at c5
       · rename_i e' x' hx;simp only[bt,beq_iff_eq]at c5;obtain⟨rfl,hs⟩:=c5;rw[hx,At.mo hs]
       · cases c5
     simp only[ad.aa,Nd.ev]at hd
     let r:L:= .r (((x.ev (ρ++ys)).ah).take (b.ev (ρ++ys)).af.toNat)
     have rF:u.aa (ρ++(ys++ [r]))=some o:=by rw[←e_];exact hd
     obtain⟨as,zs,j1,j2,j3,j4⟩:=aen (S:=(S.cut n b ty (.v S.nv)).more 1) hT hl (by simp only[ag.more,ag.cut,hl2,dL,km,oT];omega) hg hu rF;simp only[uV,Nd.in,bt,Bool.and_true]at c2;have e1:∀y:At,y.in S.nv=true→y.ev (ρ++(ys++ [r]))=y.ev (ρ++ys):=fun y hy=>by
       rw[←e_];exact At.er hy om
     have hv:((At.v S.nv).ev (ρ++(ys++ [r]))).ah=((x.ev (ρ++(ys++ [r]))).ah).take (b.ev (ρ++(ys++ [r]))).af.toNat:=by
       rw[e1 x c2.1,e1 b c2.2];have:(ρ++(ys++ [r]))[S.nv]? =some r:=by
         simp_all
       show(((ρ++(ys++ [r]))[S.nv]?).getD (.b false)).ah=_;rw[this];rfl
     have hcs:=aBP (ρ:=ρ++(ys++ [r])) (k0:=k0) (v:= .v S.nv) hg c4 hi hlk hv;have aHE:S.aa (ρ++(ys++ [r]))=S.aa (ρ++ys):=by rw[←e_];exact ag.ky c1 om
     rw[aHE]at hcs;refine⟨as,r::zs,?_,j2,?_,fun X wz CN=> ?_⟩
     · rw[j1];simp
     · simpa using j3
     · have:=j4 X wz CN;subst CN;have h2:ρ++ys++r::zs=ρ++(ys++ [r])++zs:=by simp
       rw[h2];exact fun a w ht=>this a w (hcs.le hg a w ht)
   · cases h
 · exact aen hT hl hl2 hg h hd
theorem kB {P:aQ} {T:aV} (hT:aV.ok P T) {k0:Nat} {S S':ag} {ρ ys:List L} {aI:Nat} (hl:ρ.length=aI) (hl2:S.nv=(ρ++ys).length) {v:ad} {o:Lf×List L} (hg:S.ao=[]) (h:jmp T k0 aI S' 0 .normal S=some v) (hd:v.aa (ρ++ys)=some o):
   ∃as zs,o=(.jump 0 as,ρ++ys++zs)∧S'.ao=[]∧S'.nv=(ρ++as.map (At.ev (ρ++ys++zs))).length∧∀X:Fx,X.P=P→X.k0=k0→Le X (S.aa (ρ++ys)) (S'.aa (ρ++as.map (At.ev (ρ++ys++zs)))):=by
 simp only[jmp]at h;split at h
 · rename_i S1 ι _;split at h
   · rename_i hc;obtain⟨g1,g2,g3⟩:=AR (D:=[]) (ρ:=ρ++ys) (ys:=[]) hT hl2.symm (fun z hz=>by cases hz) hc hg;simp only[cj,kj]at g2 g3;obtain⟨as,zs,j1,j2,j3,j4⟩:=afH hT hl g2 g1 h hd;exact⟨as,zs,j1,j2,j3,fun X hP hk a w ht=>j4 X hP hk a w (g3 X hP hk a w ht)⟩
   · cases h
 · exact afH hT hl hl2 hg h hd
theorem ane {P:aQ} {T:aV} (hT:aV.ok P T) {k0 live:Nat} {a b:Code} {k:ag→Option ad} {S:ag} {t u:ad} (ha:o9 P k0 a S t)
   (hk:∀S2 u,S2.ao=[]→k S2=some u→o9 P k0 b S2 u) (h:cont T k0 live S.nv k t=some u):o9 P k0 (.seq a b) S u:=by
 intro ρ x ρ' hl hd;unfold cont at h;split at h
 · obtain⟨e,S1,bE,v,h1,h2,h3⟩:=sG (fun x bE hx=> (ha ρ x bE hl hx).bare) (fun e S1 bE ht d u1 hf=>by
     cases e with
     | normal=>
       simp only[inl]at hf⊢;rw[hf];simp only[wJ];obtain⟨e',rH,g1,g2,g3,g4,g5⟩:=ha ρ _ _ hl ht;cases g1;exact UG fun x lL hx=> (hk S1 u1 g4 hf bE x lL g2.symm hx).bare
     |_=>cases hf;rfl) h hd
   obtain⟨e',rH,g1,g2,⟨ys,g3⟩,g4,g5⟩:=ha ρ _ _ hl h1;cases g1
   cases e with
   | normal=>
     obtain⟨e2,S2,k1,k2,⟨zs,k3⟩,k4,k5⟩:=hk S1 v g4 h2 bE x ρ' g2.symm h3;exact⟨e2,S2,k1,k2,⟨ys++zs,by simp_all⟩,k4,fun X hP bR Q hQ=>fA (g5 X hP bR _ (k5 X hP bR Q hQ))⟩
   |exit id=>cases h2;cases h3;exact⟨.exit id,S1,rfl,g2,⟨ys,g3⟩,g4,fun X hP bR Q hQ=>fA (g5 X hP bR _ hQ)⟩
   |ret=>cases h2;cases h3;exact⟨.ret,S1,rfl,g2,⟨ys,g3⟩,g4,fun X hP bR Q hQ=>fA (g5 X hP bR _ hQ)⟩
 · split at h
   · rename_i S' tY;split at h
     · rename_i w rest hw RW;cases h;simp only[ad.aa]at hd
       cases hwd:w.aa ρ with
       |none=>simp_all
       | some o=>
        obtain⟨e,S1,bE,v,h1,h2,h3⟩:=sG (fun x bE hx=> (ha ρ x bE hl hx).bare) (fun e S1 bE ht d u1 hf=>Gx hf) hw hwd;obtain⟨e',rH,g1,g2,⟨ys,g3⟩,g4,g5⟩:=ha ρ _ _ hl h1;cases g1
        cases e with
        |normal=>
         subst g3;obtain⟨as,zs',j1,j2,j3,j4⟩:=kB hT hl g2 g4 h2 h3;subst j1;rw[hwd]at hd;simp only at hd;obtain⟨e2,S2,k1,k2,⟨zs,k3⟩,k4,k5⟩:=hk S' rest j2 RW _ x ρ' j3.symm hd;exact⟨e2,S2,k1,k2,⟨_,by rw[k3,e_]⟩,k4,fun X hP bR Q hQ=>fA (g5 X hP bR _ (abt (j4 X hP bR) (k5 X hP bR Q hQ)))⟩
        |exit id=>
         cases h2;cases h3;rw[hwd]at hd;cases hd;exact⟨.exit id,S1,rfl,g2,⟨ys,g3⟩,g4,fun X hP bR Q hQ=>fA (g5 X hP bR _ hQ)⟩
        |ret=>
         cases h2;cases h3;rw[hwd]at hd;cases hd;exact⟨.ret,S1,rfl,g2,⟨ys,g3⟩,g4,fun X hP bR Q hQ=>fA (g5 X hP bR _ hQ)⟩
     · cases h
   · cases h
def Pj (P:aQ) (k0:Nat) (A:Fx→(Exit→ak→Prop)→ak→Prop) (S:ag) (t:ad):Prop:=∀ρ x ρ',ρ.length=S.nv→t.aa ρ=some (x,ρ')→
 ∃e S',x= .st e S'∧S'.nv=ρ'.length∧(∃ys,ρ'=ρ++ys)∧S'.ao=[]∧∀X:Fx,X.P=P→X.k0=k0→∀Q:Exit→ak→Prop,Q e.to (S'.aa ρ')→A X Q (S.aa ρ)
theorem auB {P:aQ} {T:aV} (hT:aV.ok P T) {k0 live:Nat} {a:Code} {A:Fx→(Exit→ak→Prop)→ak→Prop} (hle:∀X Q st st',Le X st st'→A X Q st'→A X Q st) {k:ag→Option ad} {S:ag} {t u:ad} (ha:o9 P k0 a S t)
   (hk:∀S2 u,S2.ao=[]→k S2=some u→Pj P k0 A S2 u) (h:cont T k0 live S.nv k t=some u):Pj P k0 (fun X Q=>Aw X a (Br (A X Q) Q)) S u:=by
 intro ρ x ρ' hl hd;unfold cont at h;split at h
 · obtain⟨e,S1,bE,v,h1,h2,h3⟩:=sG (fun x bE hx=> (ha ρ x bE hl hx).bare) (fun e S1 bE ht d u1 hf=>by
     cases e with
     | normal=>
       simp only[inl]at hf⊢;rw[hf];simp only[wJ];obtain⟨e',rH,g1,g2,g3,g4,g5⟩:=ha ρ _ _ hl ht;cases g1;exact UG fun x lL hx=> (by obtain⟨e,S',q,_⟩:=hk S1 u1 g4 hf bE x lL g2.symm hx;simp_all)
     |_=>cases hf;rfl) h hd
   obtain⟨e',rH,g1,g2,⟨ys,g3⟩,g4,g5⟩:=ha ρ _ _ hl h1;cases g1
   cases e with
   | normal=>
     obtain⟨e2,S2,k1,k2,⟨zs,k3⟩,k4,k5⟩:=hk S1 v g4 h2 bE x ρ' g2.symm h3;exact⟨e2,S2,k1,k2,⟨ys++zs,by simp_all⟩,k4,fun X hP bR Q hQ=>g5 X hP bR _ (k5 X hP bR Q hQ)⟩
   |exit id=>cases h2;cases h3;exact⟨.exit id,S1,rfl,g2,⟨ys,g3⟩,g4,fun X hP bR Q hQ=>g5 X hP bR _ hQ⟩
   |ret=>cases h2;cases h3;exact⟨.ret,S1,rfl,g2,⟨ys,g3⟩,g4,fun X hP bR Q hQ=>g5 X hP bR _ hQ⟩
 · split at h
   · rename_i S' tY;split at h
     · rename_i w rest hw RW;cases h;simp only[ad.aa]at hd
       cases hwd:w.aa ρ with
       |none=>simp_all
       | some o=>
        obtain⟨e,S1,bE,v,h1,h2,h3⟩:=sG (fun x bE hx=> (ha ρ x bE hl hx).bare) (fun e S1 bE ht d u1 hf=>Gx hf) hw hwd;obtain⟨e',rH,g1,g2,⟨ys,g3⟩,g4,g5⟩:=ha ρ _ _ hl h1;cases g1
        cases e with
        |normal=>
         subst g3;obtain⟨as,zs',j1,j2,j3,j4⟩:=kB hT hl g2 g4 h2 h3;subst j1;rw[hwd]at hd;simp only at hd;obtain⟨e2,S2,k1,k2,⟨zs,k3⟩,k4,k5⟩:=hk S' rest j2 RW _ x ρ' j3.symm hd;exact⟨e2,S2,k1,k2,⟨_,by rw[k3,e_]⟩,k4,fun X hP bR Q hQ=>g5 X hP bR _ (hle X _ _ _ (j4 X hP bR) (k5 X hP bR Q hQ))⟩
        |exit id=>
         cases h2;cases h3;rw[hwd]at hd;cases hd;exact⟨.exit id,S1,rfl,g2,⟨ys,g3⟩,g4,fun X hP bR Q hQ=>g5 X hP bR _ hQ⟩
        |ret=>
         cases h2;cases h3;rw[hwd]at hd;cases hd;exact⟨.ret,S1,rfl,g2,⟨ys,g3⟩,g4,fun X hP bR Q hQ=>g5 X hP bR _ hQ⟩
     · cases h
   · cases h
theorem agy {P:aQ} {T:aV} (hT:aV.ok P T) {k0 live:Nat} {c:Code} {body:ag→Option ad} (hb:∀S2 u,S2.ao=[]→body S2=some u→o9 P k0 c S2 u):
  ∀(n:Nat) {S:ag} {u:ad},S.ao=[]→HM T k0 live body n S=some u→Pj P k0 (fun X Q=>sx X c n Q) S u
 |0,_,_,_,h=>by cases h
 |n+1,S,u,hg,h=>by
  simp only[HM]at h;split at h
  · rename_i t ht;split at h
    · exact auB hT (A:=fun X Q=>sx X c n Q) (fun X Q st st' hl h=>agT hl h) (hb S t hg ht) (fun S2 u hg2 hu=>agy hT hb n hg2 hu) h
    · cases h
  · cases h
theorem auu {P:aQ} {T:aV} (hT:aV.ok P T) {k0:Nat} {c:Code} {S S':ag} {t u:ad} {as:List At} {n:Nat} (hg:S.ao=[]) (hc:o9 P k0 c S' t)
  (hi:jmp T k0 S.nv S' 0 .normal S=some (.ar (.jump n as))) (hu:t.bind (jmp T k0 S.nv S') 0=some u):o9 P k0 (.loop c) S (.loop as u):=by
 intro ρ x ρ' hl hd;simp only[ad.aa]at hd;obtain⟨N,hN⟩:=vS hd;obtain⟨as',zs0,i1,i2,i3,i4⟩:=kB (ys:=[]) hT hl (by simp_all) hg hi rfl;injection i1 with i1 i1'
 cases i1;rw[←i1']at i3 i4;simp only[kj]at i3 i4;have step:∀(n:Nat) (a:List L),S'.nv=(ρ++a).length→fm (fun a=>iT (u.aa (ρ++a))) (n+1) a=some (x,ρ')→
    ∃ e S1 ys,S1.nv=(ρ++a++ys).length∧S1.ao=[]∧
      (∀X:Fx,X.P=P→X.k0=k0→∀Q:Exit→ak→Prop,Q e.to (S1.aa (ρ++a++ys))→Aw X c Q (S'.aa (ρ++a)))∧
      ((e= .normal∧∃a',S'.nv=(ρ++a').length∧fm (fun a=>iT (u.aa (ρ++a))) n a'=some (x,ρ')∧∀X:Fx,X.P=P→X.k0=k0→Le X (S1.aa (ρ++a++ys)) (S'.aa (ρ++a')))∨
       (e≠ .normal∧x= .st e S1∧ρ'=ρ++a++ys)):=by
  intro n a ha hn;simp only[fm]at hn
  cases hwd:u.aa (ρ++a)with
  |none=>rw[hwd]at hn;cases hn
  | some o=>
    obtain⟨e,S1,bE,v,h1,h2,h3⟩:=sG (fun x bE hx=> (hc (ρ++a) x bE ha.symm hx).bare) (fun e S1 bE ht d u1 hf=>Gx hf) hu hwd;obtain⟨e',rH,g1,g2,⟨ys,g3⟩,g4,g5⟩:=hc (ρ++a) _ _ ha.symm h1;cases g1;subst g3;refine⟨e,S1,ys,g2,g4,g5,?_⟩
    cases e with
    | normal=>
      rw[e_]at h3;obtain⟨as,zs',j1,j2,j3,j4⟩:=kB hT hl (by rw[g2,e_]) g4 h2 h3;subst j1;rw[hwd]at hn;simp only[iT]at hn;exact .inl ⟨rfl,_,j3,hn,by simp_all⟩
    |exit id=>cases h2;cases h3;rw[hwd]at hn;cases hn;simp_all
    |ret=>cases h2;cases h3;rw[hwd]at hn;cases hn;simp_all
 have fin:∀(n:Nat) (a:List L),S'.nv=(ρ++a).length→fm (fun a=>iT (u.aa (ρ++a))) n a=some (x,ρ')→
    ∃e S1,x= .st e S1∧S1.nv=ρ'.length∧(∃ys,ρ'=ρ++ys)∧S1.ao=[]∧e≠ .normal:=by
  intro n
  induction n with
  |zero=>intro a _ h;cases h
  | succ n ih=>
    intro a ha hn;obtain⟨e,S1,ys,h1,h2,_,h4⟩:=step n a ha hn;rcases h4 with⟨_,a',k1,k2,_⟩| ⟨k1,k2,k3⟩
    · exact ih a' k1 k2
    · subst k2 k3;exact⟨e,S1,rfl,h1,⟨a++ys,e_ ..⟩,h2,k1⟩
 obtain⟨e,S1,f1,f2,f3,f4,f5⟩:=fin N _ i3 hN;refine⟨e,S1,f1,f2,f3,f4,fun X hP bR Q hQ=> ?_⟩;refine avi (α:=Nat×List L) (fun p st=>st=S'.aa (ρ++p.2)∧S'.nv=(ρ++p.2).length∧fm (fun a=>iT (u.aa (ρ++a))) p.1 p.2=some (x,ρ')) (fun p=>p.1)
  (x0:=(N,as.map (At.ev ρ))) ⟨_,i4 X hP bR,rfl,i3,hN⟩ ?_
 rintro⟨n,a⟩ st ⟨rfl,ha,hn⟩
 cases n with
 |zero=>cases hn
 |succ n=>
  obtain⟨e1,S2,ys,h1,h2,h3,h4⟩:=step n a ha hn;refine h3 X hP bR _ ?_;rcases h4 with⟨rfl,a',k1,k2,k3⟩| ⟨k1,k2,k3⟩
  · exact⟨(n,a'),_,k3 X hP bR,⟨rfl,k1,k2⟩,zE n⟩
  · subst f1;cases k2;subst k3
    cases e with
    |normal=>simp_all
    |exit id=>exact hQ
    |ret=>exact hQ
theorem VY {P:aQ} {T:aV} (hT:aV.ok P T) {k0 live:Nat} {c:Code} {body:ag→Option ad} {S:ag} (hg:S.ao=[]) (hb:∀S2 u,S2.ao=[]→body S2=some u→o9 P k0 c S2 u):
  ∀{fuel:Nat} {Ss:List ag} {u:ad},GI T k0 live body S fuel Ss=some u→o9 P k0 (.loop c) S u
 |0,_,_,h=>by cases h
 | fuel + 1,Ss,u,h=>by
  simp only[GI]at h;split at h
  · rename_i S' tY;split at h
    · rename_i t ht;split at h
      · rename_i n as w h1 h2;split at h
        · rename_i hgo;cases h;exact auu hT hg (hb S' t (by simpa using hgo) ht) h1 h2
        · cases h
      · exact VY hT hg hb h
    · cases h
  · cases h
theorem mh {P:aQ} {T:aV} {C:cm} {k0:Nat} (hT:aV.ok P T) (hC:cm.ok P C) (hm:P.follows .mixedOrders=true):∀(c:Code) {n:Nat} {ex:List (Nat×Nat)} {r:Nat} {S:ag} {u:ad},
  S.ao=[]→exec T C k0 c n ex r S=some u→o9 P k0 c S u
 | .skip,n,ex,r,S,u,hg,h=>by
  simp only[exec]at h;cases h;intro ρ x ρ' hl hd;cases hd;exact⟨.normal,S,rfl,hl.symm,⟨[],by simp⟩,hg,fun X _ _ Q hQ=>EK hQ⟩
 | .exit id,n,ex,r,S,u,hg,h=>by
  simp only[exec]at h;cases h;intro ρ x ρ' hl hd;cases hd;exact⟨.exit id,S,rfl,hl.symm,⟨[],by simp⟩,hg,fun X _ _ Q hQ=>awD hQ⟩
 | .ret,n,ex,r,S,u,hg,h=>by
  simp only[exec]at h;cases h;intro ρ x ρ' hl hd;cases hd;exact⟨.ret,S,rfl,hl.symm,⟨[],by simp⟩,hg,fun X _ _ Q hQ=>vd hQ⟩
 | .region id ops draw,n,ex,r,S,u,hg,h=>by
  simp only[exec]at h;intro ρ x ρ' hl hd;exact aqt hT hC hm h hl hd
 | .seq a b,n,ex,r,S,u,hg,h=>by
  simp only[exec]at h;split at h
  · rename_i t ht;exact ane hT (mh hT hC hm a hg ht) (fun S2 u hg2 hu=>mh hT hC hm b hg2 hu) h
  · cases h
 | .block id c,n,ex,r,S,u,hg,h=>by
  simp only[exec]at h;split at h
  · rename_i t ht;intro ρ x ρ' hl hd;have hc:=mh hT hC hm c hg ht;obtain⟨e,S1,bE,v,h1,h2,h3⟩:=sG (fun x bE hx=> (hc ρ x bE hl hx).bare) (fun e S1 bE ht d u1 hf=>by cases hf;rfl) h hd;obtain⟨e',rH,g1,g2,g3,g4,g5⟩:=hc ρ _ _ hl h1;cases g1;cases h2;cases h3;refine⟨_,S1,rfl,g2,g3,g4,fun X hP bR Q hQ=>Ux (g5 X hP bR _ ?_)⟩
    cases e with
    |normal=>exact hQ
    |ret=>exact hQ
    | exit wi=>
      simp only[Ex.to,B9];by_cases hid:wi=id
      · subst hid;rw[au rfl];rw[au rfl]at hQ;exact hQ
      · rw[aE hid];rw[aE (by intro h;cases h;exact hid rfl)]at hQ;exact hQ
  · cases h
 | .scope c,n,ex,r,S,u,hg,h=>by
  simp only[exec]at h;intro ρ x ρ' hl hd;obtain⟨e,S1,g1,g2,g3,g4,g5⟩:=mh hT hC hm c hg h ρ x ρ' hl hd;refine⟨e,S1,g1,g2,g3,g4,fun X hP bR Q hQ=>auJ (g5 X hP bR _ ?_)⟩;cases e<;>exact hQ
 | .label l,n,ex,r,S,u,hg,h=>by
  simp only[exec]at h;cases h;intro ρ x ρ' hl hd;cases hd;exact⟨.normal,S,rfl,hl.symm,⟨[],by simp⟩,hg,fun X _ _ Q hQ=>akX hQ⟩
 | .loop c,n,ex,r,S,u,hg,h=>by
  simp only[exec]at h;split at h
  · rename_i v hv;cases h;exact VY hT hg (fun S2 u hg2 hu=>mh hT hC hm c hg2 hu) hv
  · intro ρ x ρ' hl hd;obtain⟨e,S1,g1,g2,g3,g4,g5⟩:=agy hT (fun S2 u hg2 hu=>mh hT hC hm c hg2 hu) 600 hg h ρ x ρ' hl hd;exact⟨e,S1,g1,g2,g3,g4,fun X hP bR Q hQ=>agL (g5 X hP bR Q hQ)⟩
 | .cond c a b,n,ex,r,S,u,hg,h=>by
  simp only[exec]at h;have key:∀(y:At),S.arg c=some (.v (.c (.p .bool y)))→∀ρ,(S.aa ρ).arg c=some (.sc (.bool (y.ev ρ).br)):=fun y hy ρ=>ag.bL ρ hy
  split at h
  · rename_i hc;intro ρ x ρ' hl hd;obtain⟨e,S',g1,g2,g3,g4,g5⟩:=mh hT hC hm a hg h ρ x ρ' hl hd;exact⟨e,S',g1,g2,g3,g4,fun X hP bR Q hQ=>vV (t:=true) (key _ hc ρ) (fun _=>g5 X hP bR Q hQ) (fun h=>by cases h)⟩
  · rename_i hc;intro ρ x ρ' hl hd;obtain⟨e,S',g1,g2,g3,g4,g5⟩:=mh hT hC hm b hg h ρ x ρ' hl hd;exact⟨e,S',g1,g2,g3,g4,fun X hP bR Q hQ=>vV (t:=false) (key _ hc ρ) (fun h=>by cases h) (fun _=>g5 X hP bR Q hQ)⟩
  · rename_i y _ _ hc;split at h
    · rename_i u1 u2 h1 h2;cases h;intro ρ x ρ' hl hd;simp only[ad.aa]at hd;split at hd
      · rename_i ht;obtain⟨e,S',g1,g2,g3,g4,g5⟩:=mh hT hC hm a hg h1 ρ x ρ' hl hd;exact⟨e,S',g1,g2,g3,g4,fun X hP bR Q hQ=>vV (key _ hc ρ) (fun _=>g5 X hP bR Q hQ) (fun h=>by rw[ht]at h;cases h)⟩
      · rename_i ht;obtain⟨e,S',g1,g2,g3,g4,g5⟩:=mh hT hC hm b hg h2 ρ x ρ' hl hd;exact⟨e,S',g1,g2,g3,g4,fun X hP bR Q hQ=>vV (key _ hc ρ) (fun h=>absurd h ht) (fun _=>g5 X hP bR Q hQ)⟩
    · cases h
  · cases h
 | .rangeFunc ..,_,_,_,_,_,_,h=>by simp only[exec]at h;cases h
 | .goto ..,_,_,_,_,_,_,h=>by simp only[exec]at h;cases h
 | .refuse ..,_,_,_,_,_,_,h=>by simp only[exec]at h;cases h
def sR:List ResultVar→Nat
 |[]=>0
 | .tmp t::r=> (1<<<t)|||sR r
 | .cell t _::r=> (1<<<t)|||sR r
def ad.sW:ad→List ag
 | .ar (.st .normal S)=> [S]
 | .ar (.st .ret S)=> [S]
 | .ar _=> []
 | .op _ k=>k.sW
 | .ite _ a b=>a.sW++b.sW
 | .join a b=>a.sW++b.sW
 | .loop _ b=>b.sW
def fin (T:aV) (k0 aI:Nat) (S':ag) (d:Nat) (e:Ex) (S:ag):Option ad:=match e with
 | .exit _=>none
 |_=>jmp T k0 aI S' d .normal S
def SV.one:SV→Option aB
 | .v x=>some x
 | .aj _=>none
def u4 (T:aV) (S:ag):ResultVar→Option aB
 | .tmp t=> (S.tmps[t]?).bind SV.one
 | .cell t ty=>match S.tmps[t]? with
  |some (.v (.c (.ptr n off)))=>match List.lookup n S.heap,List.lookup ty T with
   |some (.box cs),some r=> (GC r (cs.drop off)).bind SV.one
   |_,_=>none
  |_=>none
def aDT:List aB→SV
 |[x]=> .v x
 |xs=> .aj xs
def EB (T:aV) (rs:List ResultVar) (S:ag):Option SV:=(rs.mapM (u4 T S)).map aDT
theorem one_den {ρ:List L} {v:SV} {x:aB} (h:v.one=some x):(v.aa ρ).one=some (x.aa ρ):=by
 cases v with
 |v y=>cases h;rfl
 |aj=>cases h
theorem aoE {P:aQ} {T:aV} (hT:aV.ok P T) {S:ag} {ρ:List L} {rv:ResultVar} {x:aB} (h:u4 T S rv=some x):oo P (S.aa ρ) rv=some (x.aa ρ):=by
 have ht:∀t:Nat,(S.aa ρ).tmps[t]? =(S.tmps[t]?).map (SV.aa ρ):=fun t=>by simp[ag.aa]
 cases rv with
 |tmp t=>
  simp only[u4,gE]at h;obtain⟨v,h1,h2⟩:=h;simp only[oo,ht,h1,aJ,wJ,one_den h2]
 |cell t ty=>
  simp only[u4]at h;split at h
  · rename_i n off h1;split at h
    · rename_i cs r h2 h3;simp only[gE]at h;obtain⟨v,h4,h5⟩:=h;have:=hT _ _ h3;subst this;have h6:=Wc ρ h4;have hb:(S.aa ρ).heap.lookup n=some (.box (cs.map (SC.aa ρ))):=by
       rw[dD,h2];rfl
      simp only[oo,ht,h1,aJ,SV.aa,aB.aa,SC.aa,hb];rw[←p7,h6];exact one_den h5
    · cases h
  · cases h
theorem WN {P:aQ} {T:aV} (hT:aV.ok P T) {S:ag} {ρ:List L} {rs:List ResultVar} {x:SV} (h:EB T rs S=some x):sV P rs (S.aa ρ)=some (x.aa ρ):=by
 simp only[EB,aW]at h;obtain⟨xs,h1,rfl⟩:=h;have key:∀{rs:List ResultVar} {xs:List aB},rs.mapM (u4 T S)=some xs→rs.mapM (oo P (S.aa ρ))=some (xs.map (aB.aa ρ)):=by
  intro rs
  induction rs with
  |nil=>simp_all
  | cons r rs ih=>
   intro xs h;rw[je]at h⊢
   cases h1:u4 T S r with
   |none=>simp_all
   | some y=>
    cases h2:rs.mapM (u4 T S)with
    |none=>simp_all
    |some ys=>
     rw[h1,h2]at h;cases h;rw[aoE hT h1,ih h2];rfl
 simp only[sV,key h1,aJ];congr 1
 cases xs with
 |nil=>rfl
 |cons x xs=>
  cases xs with
  |nil=>rfl
  |cons=>rfl
structure sY where
 E6:ad
 res:SV
 out:cb
 gG:Nat
def sJ (n cE:Nat) (params:List aB) (H:List SB):ag:=⟨params.map SV.v++List.replicate (n-params.length) (.aj []),H.zipIdx.map fun x=> (x.2,x.1),[],H.length,cE⟩
def SC.to (f:Nat→Nat):SC→SC
 | .own n=> .own (f n)
 | .sub n a b=> .sub (f n) a b
 | .ptr n o=> .ptr (f n) o
 | .gg n o c m i=> .gg (f n) o c m i
 | .cB n i j=> .cB (f n) i j
 | .fn g ns=> .fn g (ns.map f)
 | .mp n=> .mp (f n)
 |c=>c
def ag.order (k0:Nat) (S:ag):ag:=
 let tops:=S.tmps.filterMap fun x=>match x with
  | .v (.c (.ptr n _))=>if k0≤n then some n else none
  |_=>none
 let ns:=(List.range (S.next-k0)).map (· +k0)
 let ord:=ns.filter (fun n=> !tops.contains n)++ns.filter (fun n=>tops.contains n)
 let f:=fun n=>if n<k0 then n else k0+(ord.findIdx (· ==n))
 {S with tmps:=S.tmps.map (SV.eB (SC.to f)),heap:=S.heap.map fun x=> (f x.1,x.2.eB (SC.to f) id)}
def reach (h:cb):Nat→List Nat→List Nat
 |0,ns=>ns
 |fuel+1,ns=>reach h fuel (ns++(ns.flatMap fun n=>match List.lookup n h with
  |some (.box cs)=> (cs.flatMap SC.names).filter fun m=> !ns.contains m
  |_=> []).eraseDups)
def Lh (T:aV) (C:cm) (c:Code) (n:Nat) (rs:List ResultVar) (cE:Nat) (params:List aB) (H:List SB):Option sY:=
 match exec T C H.length c (sR rs) [] (sR rs) (sJ n cE params H)with
 | some t=>match(merge (sR rs) H.length cE t.sW).map (ag.order H.length)with
  |some S'=>match t.bind (fin T H.length cE S') 0,EB T rs S' with
   |some u,some r=>some ⟨u,r,S'.heap.filter (fun x=> (reach S'.heap 4 (List.range H.length++r.names)).contains x.1),S'.nv-cE⟩
   |_,_=>none
  |none=>none
 |none=>none
def gn (o:Out):Option (List L):=match o with
 |some (.jump _ as,ρ)=>some (as.map (At.ev ρ))
 |_=>none
noncomputable def sY.sig (o:sY) (f:FuncId) (cE:Nat) (params:List aB) (H:List SB) (F:List L→Option (List L)) (tag:Nat):az:=⟨f,params,H,cE,o.gG,o.res,o.out,F,tag⟩
theorem vU {X:Fx} {c:Code} {Q:Exit→ak→Prop} {st:ak} (h:Aw X c (fun e st=>∃st',Le X st st'∧Q e st') st):Aw X c Q st:=fun a w ht=>
 wp_mono (h a w ht) fun _ _ _ ⟨_,⟨st',h1,h2⟩,h3⟩=> ⟨st',h2,h1 _ _ h3⟩
theorem MV {n cE:Nat} {params:List aB} {H:List SB} {ρ:List L}:(sJ n cE params H).aa ρ=mN n (params.map (aB.aa ρ)) (H.map (SB.aa ρ)):=by
 unfold sJ mN ag.aa;congr 1
 · simp only[ej,iP,IU,ax];rfl
 · simp only[cb.aa,hp,iP,List.zipIdx_map];rfl
 · simp
theorem afo {T:aV} {k0 aI:Nat} {S':ag} {d:Nat} {e:Ex} {S:ag} {u1:ad} {bE:List L} (h:fin T k0 aI S' d e S=some u1):u1.aa bE=((fin T k0 aI S' 0 e S).bind (·.aa bE)).map (lift d):=by
 cases e with
 |exit=>cases h
 |_=>
  simp only[fin]at h⊢;exact Gx h
theorem Fy {g:Nat→Bool} {n:Nat} {b:SB}:∀{h:cb},List.lookup n (h.filter fun x=>g x.1)=some b→List.lookup n h=some b
 |[],h1=>by cases h1
 | (k,b')::h,h1=>by
  rw[List.filter_cons]at h1;rw[eR];split at h1
  · rw[eR]at h1;split
    · simp_all
    · rename_i hk;rw[hk]at h1;exact Fy h1
  · rename_i hg;split
    · rename_i hk;simp at hk;subst hk;exfalso;have:∀{h:cb},List.lookup n (h.filter fun x=>g x.1)=some b→g n=true:=by
       intro h h2;have:=qa.1 (B1 h2);exact this.2
      exact hg (this h1)
    · exact Fy h1
theorem atd {P:aQ} {T:aV} {C:cm} (hT:aV.ok P T) (hC:cm.ok P C) (hm:P.follows .mixedOrders=true) {f:FuncId} {fn:Func} {c:Code} (hf:P.funcs[f]? =some fn) (hname:(fn.name== "runtime.NumGoroutine")=false)
   (hb:fn.body=some c) {n:Nat} (hn:fn.ntmps=n) {rs:List ResultVar} (jB:fn.results=rs.toArray) {cE:Nat} {params:List aB} {H:List SB} {o:sY} (h:Lh T C c n rs cE params H=some o)
   {F:List L→Option (List L)} (hF:∀ls,F ls=gn (o.E6.aa ls)) (tag:Nat):(o.sig f cE params H F tag).ok P:=by
 intro ls os hl wB dr;unfold Lh at h;split at h
 · rename_i t ht;split at h
   · rename_i S' tY;split at h
     · rename_i u r hu hr;cases h;have CO:=mh hT hC hm c (S:=sJ n cE params H) rfl ht;replace wB:F ls=some os:=wB;rw[hF]at wB;simp only[gn]at wB;split at wB
       · rename_i k as ρ' hd;cases wB;have hl':ls.length=(sJ n cE params H).nv:=hl;obtain⟨e,S1,bE,v,h1,h2,h3⟩:=sG (fun x bE hx=> (CO ls x bE hl' hx).bare) (fun e S1 bE ht d u1 hf=>afo hf) hu hd;obtain⟨e',rH,g1,g2,⟨ys,g3⟩,g4,g5⟩:=CO ls _ _ hl' h1;cases g1;subst g3;have key:(e= .normal∨e= .ret)∧∀X:Fx,X.P=P→X.k0=H.length→Le X (S1.aa (ls++ys)) (S'.aa (ls++as.map (At.ev ρ'))):=by
           cases e with
           |exit=>cases h2
           |_=>
            obtain⟨as',zs,j1,_,_,j4⟩:=kB hT hl g2 g4 h2 h3;cases j1;exact⟨by simp,j4⟩
         obtain⟨he,hle⟩:=key;refine eI.intro hf hname hb hn jB (fun X hP bR=> ?_);rw[ax]at bR;rw[←MV];refine vU (g5 X hP bR _ ⟨_,hle X hP bR,?_⟩);refine⟨?_,WN hT hr,fun n b mH=> ?_⟩;rotate_left
         · rw[dD];rw[cb.Hv]at mH;simp only[aW]at mH;obtain⟨b0,hb0,rfl⟩:=mH;rw[Fy hb0];rfl
         rcases he with rfl|rfl<;>trivial
       · cases wB
     · cases h
   · cases h
 · cases h
def Bk (T:aV) (C:cm) (fn:Func) (cE:Nat) (params:List aB) (H:List SB):Option sY:=match fn.body with
 |some c=>Lh T C c fn.ntmps fn.results.toList cE params H
 |none=>none
theorem aGc {P:aQ} {T:aV} {C:cm} (hT:aV.ok P T) (hC:cm.ok P C) (hm:P.follows .mixedOrders=true) {f:FuncId} {fn:Func} (hf:P.funcs[f]? =some fn) (hname:(fn.name== "runtime.NumGoroutine")=false)
   {cE:Nat} {params:List aB} {H:List SB} {o:sY} (h:Bk T C fn cE params H=some o) {F:List L→Option (List L)} (hF:∀ls,F ls=gn (o.E6.aa ls)) (tag:Nat):(o.sig f cE params H F tag).ok P:=by
 unfold Bk at h;split at h
 · rename_i c hc;exact atd hT hC hm hf hname hc rfl (by simp) h hF tag
 · cases h
noncomputable def Fo (x:ad):List L→Option (List L):=fun ls=>gn (x.aa ls)
end
end
end Go.Proofs.YtndegphojkiblaaGreatDoor
