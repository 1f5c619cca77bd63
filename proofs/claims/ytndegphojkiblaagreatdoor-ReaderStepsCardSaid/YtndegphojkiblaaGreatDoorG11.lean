/- A part. -/
import Derived.Test.YtndegphojkiblaaGreatDoorG9
set_option linter.all false
set_option maxHeartbeats 4000000
set_option maxRecDepth 100000
namespace Go.Proofs.YtndegphojkiblaaGreatDoor
noncomputable section
section
open Go.RowKit
open Classical
def SC.clear(g:List Nat)(c:SC):SC:=if c.names.any (g.contains ·)then .dead else c
def SB.clear(g:List Nat):SB->SB
 |.box cs=>.box (cs.map (SC.clear g))
 |b=>b
def bp.settle(S:bp):bp:=match S.bt with
 |[]=>S
 |g=> {S with tmps:=S.tmps.map (SV.fh (SC.clear g)),heap:=(S.heap.filter λx=> !g.contains x.1).map λx=>(x.1,x.2.clear g),bt:=[]}
theorem SC.FV{ρ g}(c:SC):(c.clear g).a6 ρ=(c.a6 ρ).clear g:=by
 unfold SC.clear C.clear;rw[SC.mG];split<;>rfl
theorem atX{ρ f a}(b:∀c,(f c).a6 ρ=a (c.a6 ρ))(x:SV):(x.fh f).a6 ρ=(x.a6 ρ).on a:=by
 have d:∀x:bK,(x.fh f).a6 ρ=(x.a6 ρ).on a:=by
  intro x
  cases x with
  |c c=>grind[bK.fh,bK.a6,V1.on]
  |agg cs=>simp_all[bK.fh,bK.a6,V1.on]
 cases x with
 |v x=>grind[SV.fh,SV.a6,V.on]
 |bq xs=>simp_all[SV.fh,SV.a6,V.on]
theorem SB.FV{ρ g}(b:SB):(b.clear g).a6 ρ=(b.a6 ρ).on (C.clear g):=by
 cases b with
 |box cs=>simp only[SB.clear,SB.a6,eD.on,h_];congr 1;apply ia;intro c _;exact SC.FV c
 |row=>rfl
 |map=>rfl
theorem aad{ρ}{S:bp}:(S.settle).a6 ρ=(S.a6 ρ).settle:=by
 unfold bp.settle bz.settle;have a:(S.a6 ρ).bt=S.bt:=rfl;rw[a]
 cases S.bt with
 |nil=>rfl
 |cons t U=>
  simp only[bp.a6,bz.mk.injEq,h_,and_true];refine⟨ia λx _=>atX (λc=>SC.FV c) x,?_⟩;simp only[dh.a6,h_,List.filter_map];refine ia λx _=>?_
  simp only[Function.comp,SB.FV]
theorem TU(S:bp):S.settle.bt=[]:=by
 unfold bp.settle;grind
theorem WW(S:bp):S.settle.nv=S.nv:=by
 unfold bp.settle;split<;>rfl
def SC.in(m:Nat):SC->Bool
 |.p _ x=>x.in m
 |.sub _ a b=>a.in m&&b.in m
 |.gN _ _ _ _ i=>i.in m
 |.dy _ i _=>i.in m
 |.ref x _=>x.in m
 |_=>true
def bK.in(m:Nat):bK->Bool
 |.c x=>x.in m
 |.agg xs=>xs.all (SC.in m)
def SV.in(m:Nat):SV->Bool
 |.v x=>x.in m
 |.bq xs=>xs.all (bK.in m)
def SB.in(m:Nat):SB->Bool
 |.box cs=>cs.all (SC.in m)
 |.row _ x=>x.in m
 |.map=>true
def bp.in(m:Nat)(S:bp):Bool:=S.tmps.all (SV.in m)&&S.heap.all λx=>x.2.in m
theorem SC.kc{m ρ ys}{c:SC}(h:c.in m=true)(a:m<=ρ.length):c.a6 (ρ++ys)=c.a6 ρ:=by
 cases c<;>simp only[SC.in,cd]at h<;>simp only[SC.a6]<;>first
  |rfl
  |(rw[At.eY h a];done)
  |(rw[At.eY h.1 a,At.eY h.2 a];done)
theorem bK.kc{m ρ ys}{x:bK}(h:x.in m=true)(a:m<=ρ.length):x.a6 (ρ++ys)=x.a6 ρ:=by
 cases x with
 |c c=>simp only[bK.a6];rw[SC.kc h a]
 |agg cs=>
  simp only[bK.in,cj]at h;simp only[bK.a6];congr 1;exact ia λc d=>SC.kc (h c d) a
theorem SV.kc{m ρ ys}{x:SV}(h:x.in m=true)(a:m<=ρ.length):x.a6 (ρ++ys)=x.a6 ρ:=by
 cases x with
 |v x=>simp only[SV.a6];rw[bK.kc h a]
 |bq xs=>
  simp only[SV.in,cj]at h;simp only[SV.a6];congr 1;exact ia λc d=>bK.kc (h c d) a
theorem SB.kc{m ρ ys}{b:SB}(h:b.in m=true)(a:m<=ρ.length):b.a6 (ρ++ys)=b.a6 ρ:=by
 cases b with
 |box cs=>
  simp only[SB.in,cj]at h;simp only[SB.a6];congr 1;exact ia λc d=>SC.kc (h c d) a
 |row e x=>simp only[SB.a6];rw[At.eY h a]
 |map=>rfl
theorem bp.kc{m ρ ys}{S:bp}(h:S.in m=true)(d:m<=ρ.length):S.a6 (ρ++ys)=S.a6 ρ:=by
 simp only[bp.in,cd,cj]at h;simp only[bp.a6,bz.mk.injEq,and_true];refine⟨ia λc a=>SV.kc (h.1 c a) d,?_⟩;exact ia λc a=>by rw[SB.kc (h.2 c a) d]
def RT.uD(f:bp->jL->Option a8):RT->Option a8
 |.br S ts=>f S ts
 |.ops nds k=>(RT.uD f k).map λk=>nds.foldr .op k
 |.ite a x y=>match RT.uD f x,RT.uD f y with
  |some x,some y=>some (.ite a x y)
  |_,_=>none
 |.stuck=>some (.op (.ed (.i 0) 0) (.br (.jump 0 [])))
theorem CN:∀{nds}{k}{ρ},(nds.foldr a8.op k).a6 ρ=match qa ρ nds with|some ρ'=>k.a6 ρ'|none=>none
 |[],_,_=>rfl
 |nd::nds,k,ρ=>by
  simp only[List.foldr_cons,a8.a6,qa]
  cases nd.ev ρ with
  |none=>rfl
  |some ls=>exact CN
theorem AL{f:bp->jL->Option a8}:∀{t:RT}{u:a8}{ρ:List L}{o:Lf×List L},t.uD f=some u->u.a6 ρ=some o->∃S ts ρ' v,t.a6 ρ=some ((S,ts),ρ')/\f S ts=some v/\v.a6 ρ'=some o
 |.br S ts,u,ρ,o,h,b=>⟨S,ts,ρ,u,rfl,h,b⟩
 |.ops nds k,u,ρ,o,h,b=>by
  simp only[RT.uD,bY]at h;obtain⟨v,e,rfl⟩:=h;rw[CN]at b;split at b
  .rename_i g j;obtain⟨S,ts,ρ',w,c,d,l⟩:=AL e b;grind[RT.a6]
  .cases b
 |.stuck,u,ρ,o,h,b=>by
  cases h;simp[a8.a6,Nd.ev,At.ev,L.a_]at b
 |.ite a x y,u,ρ,o,h,b=>by
  simp only[RT.uD]at h;split at h
  .rename_i m n c d;cases h;simp only[a8.a6]at b;split at b
   .obtain⟨S,ts,ρ',w,k1,k2,i⟩:=AL c b;grind[RT.a6]
   .obtain⟨S,ts,ρ',w,k1,k2,i⟩:=AL d b;grind[RT.a6]
  .cases h
def er(T:b_)(C:dt)(ops:Array Oper)(draw:Bool)(S:bp):Option a8:=
 if S.in S.nv=true/\S.bt=[]/\(!draw||CY ops)=true then
  (rJ T C S.next ops (4*ops.size+8) ops.toList 0 {S with next:=S.next+8*ops.size} []).bind λt=>RT.uD (λS' ts=>
   if(if draw then oE ops ts&&tc S.next ops ts else oB S.next 0 ts)=true then some (.br (.st .normal S'.settle))else none) t
 else none
def Good(P:cD)(k0:Nat)(c:Code)(S:bp)(ρ:List L)(x:Lf)(ρ':List L):Prop:=
 ∃e S',x=.st e S'/\S'.nv=ρ'.length/\(∃ys,ρ'=ρ++ys)/\S'.bt=[]/\∀X:Fx,X.P=P->X.k0=k0->∀Q:Exit->bz->Prop,Q e.to (S'.a6 ρ')->Aw X c Q (S.a6 ρ)
theorem aiQ{P T C k0}(g:b_.ok P T)(i:dt.ok P C)(j:P.follows .mixedOrders=true){id ops draw S u ρ ρ' x}
 (h:er T C ops draw S=some u) (k:ρ.length=S.nv) (l:u.a6 ρ=some (x,ρ')):Good P k0 (.region id ops draw) S ρ x ρ':=by
 unfold er at h;split at h
 .rename_i m;obtain⟨n,A,B⟩:=m;simp only[gV]at h;obtain⟨t,o,h⟩:=h;obtain⟨d,ts,p,v,k1,k2,q⟩:=AL h l;have a:(if draw then oE ops ts&&tc S.next ops ts else oB S.next 0 ts)=true:=by
   simp_all
  rw[bF a]at k2
  .cases k2;cases q;obtain⟨r,⟨ys,e2⟩,rs,s,Sp,e3,w⟩:=ta g i o (by exact k) k1;subst w;refine⟨.normal,d.settle,rfl,by rw[WW];exact r,⟨ys,e2⟩,TU d,λX b y Q c=>?_⟩;have e:S.a6 ρ'=S.a6 ρ:=by grind[bp.kc]
   have z:bp.a6 ρ' {S with next:=S.next+8*ops.size}=(S.a6 ρ).bump ops.toList.length:=by
    simp_all[bp.a6,bz.bump]
   rw[z]at e3;rw[aad]at c;have f:ops.toList.toArray=ops:=by simp
   subst b
   cases draw with
   |false=>
    have:=te (X:=X) (Sp:=Sp) (Q:=Q) (id:=id) (ops:=ops.toList) (st:=S.a6 ρ) (rs:=rs) (ts:=ts) (by exact e3) a c;omega
   |true=>
    simp only[if_true,cd]at a;have:=ajl (X:=X) (Sp:=Sp) (Q:=Q) j (id:=id) (ops:=ops.toList) (st:=S.a6 ρ) (rs:=rs) (ts:=ts) (by simp_all) (by exact e3) (by simp_all) (by exact a.2) c;omega
 .cases h
def At.par(bP:Nat)(as:List At):At->At
 |.v j=>if j<bP then .v j else(as[j-bP]?).getD (.b false)
 |x=>x
theorem At.KG{bP as ρ ys}(a:ρ.length=bP)(x:At):(x.par bP as).ev (ρ++ys)=x.ev (ρ++as.map (At.ev (ρ++ys))):=by
 cases x with
 |v j=>
  simp only[At.par];split
  .simp only[At.ev];grind
  .simp only[At.ev];rw[nV om,a,cN];cases as[j-bP]? <;>rfl
 |_=>rfl
abbrev iM:=List (Nat×At×At×At)
def C6(D:iM)(S:bp)(bP:Nat)(as:List At)(ι:Ren)(Z:List Nat):SC->SC->Bool
 |_,.dead=>true
 |.p k x,.p p y=>decide (k=p)&& (y.par bP as).same x
 |.nil,.p .sl y=>(y.par bP as).same .r0
 |.sub n a b,.p .sl y=> !ι.old.contains n&&D.any λz=>z.1==n&&z.2.1.same a&&z.2.2.1.same b&& (y.par bP as).same z.2.2.2
 |.own n,.p .sl y=>match List.lookup n S.heap with
  |some (.row _ x)=>(y.par bP as).same x&& !ι.old.contains n
  |_=>false
 |.nil,.nil=>true
 |.nil,.own d=>Z.contains d
 |.nil,.sub d (.i 0) (.i 0)=>Z.contains d
 |.own n,.own d=>List.lookup n ι==some d
 |.sub n a b,.sub d q r=>List.lookup n ι==some d&& (q.par bP as).same a&& (r.par bP as).same b
 |.ptr n o,.ptr d e=>List.lookup n ι==some d&&o==e
 |.gN n o c m i,.gN d e s t g=>List.lookup n ι==some d&&o==e&&c==s&&m==t&& (g.par bP as).same i
 |.dy n i j,.dy d g h=>List.lookup n ι==some d&& (g.par bP as).same i&&j==h
 |.ref x j,.ref u h=>(u.par bP as).same x&&j==h
 |.fn f v,.fn w l=>f==w&&v.map (λn=>List.lookup n ι)==l.map some
 |.mp n,.mp d=>List.lookup n ι==some d
 |_,_=>false
theorem sV{ι:Ren}{n a}(h:(List.lookup n ι==some a)=true):ι.to n=a/\n∈ι.old:=by
 have b:List.lookup n ι=some a:=by simpa using h
 refine⟨by simp[Ren.to,b],?_⟩;clear h
 induction ι with
 |nil=>cases b
 |cons x ι ih=>
  grind[Ren.old]
section
variable{D:iM}{S:bp}{bP:Nat}{as:List At}{ι:Ren}{Z:List Nat}{ρ ys:List L}
def iM.ok(D:iM)(S:bp)(ρ:List L):Prop:=∀z∈D,(S.a6 ρ).view ((SC.sub z.1 z.2.1 z.2.2.1).a6 ρ)=some (z.2.2.2.ev ρ).bm
theorem Yu(s:ρ.length=bP)(t:D.ok S (ρ++ys)){c p}(h:C6 D S bP as ι Z c p=true):zX (S.a6 (ρ++ys)) ι Z (c.a6 (ρ++ys)) (p.a6 (ρ++as.map (At.ev (ρ++ys)))):=by
 have same:∀{x y:At},(y.par bP as).same x=true->y.ev (ρ++as.map (At.ev (ρ++ys)))=x.ev (ρ++ys):=λu=>by rw[<-At.KG s,At.lJ u]
 unfold C6 at h;split at h
 .cases c<;>trivial
 .simp only[cd,dj]at h;obtain⟨rfl,a⟩:=h;exact .inl (by grind[SC.a6])
 .exact .inr ⟨[],by simp only[Kd.pv,same h];rfl,rfl,λk l=>by simp[SC.a6,C.names]at l⟩
 .simp only[cd,o_,Bv,u6,Bt,beq_iff_eq]at h;obtain⟨g,⟨m,w,A,z⟩,a,⟨⟨b,i⟩,q⟩,v⟩:=h;simp only at b i q v;subst b;have r:=t _ a;simp only[SC.a6,At.lJ i,At.lJ q]at r;refine .inr ⟨(z.ev (ρ++ys)).bm,by grind[Kd.pv],r,λk l=>?_⟩;simp_all[SC.a6,C.names]
 .split at h
  .rename_i e x B;simp only[cd,o_,Bv,u6]at h;refine .inr ⟨(x.ev (ρ++ys)).bm,by grind[Kd.pv],by grind[SC.a6,bz.view,ep,SB.a6],λk l=>?_⟩;simp_all[SC.a6,C.names]
  .cases h
 .exact⟨rfl,by simp[SC.a6,C.names]⟩
 .rename_i o;exact(by simpa using h:o∈Z)
 .rename_i o;exact⟨(by simpa using h:o∈Z),rfl,rfl⟩
 .obtain⟨g,a⟩:=sV h;exact⟨by grind[SC.a6,C.dK],by grind[SC.a6,C.names]⟩
 .simp only[cd]at h;obtain⟨g,a⟩:=sV h.1.1;exact⟨by grind[SC.a6,C.dK],by grind[SC.a6,C.names]⟩
 .simp only[cd]at h;obtain⟨g,a⟩:=sV h.1;exact⟨by simp_all[SC.a6,C.dK],by grind[SC.a6,C.names]⟩
 .simp only[cd]at h;obtain⟨g,a⟩:=sV h.1.1.1.1;have b:=h.1.1.1.2;have i:=h.1.2;simp only[beq_iff_eq]at b i;exact⟨by grind[SC.a6,C.dK],by grind[SC.a6,C.names]⟩
 .simp only[cd]at h;obtain⟨g,a⟩:=sV h.1.1;have b:=h.2;simp only[beq_iff_eq]at b;exact⟨by grind[SC.a6,C.dK],by grind[SC.a6,C.names]⟩
 .simp only[cd,beq_iff_eq]at h;exact⟨by grind[SC.a6,C.dK],by simp[SC.a6,C.names]⟩
 .rename_i f j E d;simp only[cd,beq_iff_eq]at h;obtain⟨rfl,a⟩:=h;have b:d=j.map ι.to/\∀m∈j,m∈ι.old:=by
   induction j generalizing d with
   |nil=>simp_all
   |cons m F ih=>
    cases d with
    |nil=>simp at a
    |cons n j=>
     simp_all[sV]
  exact⟨by simp_all[SC.a6,C.dK],by simp_all[SC.a6,C.names]⟩
 .obtain⟨g,a⟩:=sV h;exact⟨by grind[SC.a6,C.dK],by grind[SC.a6,C.names]⟩
 .cases h
def yE(D:iM)(S:bp)(bP:Nat)(as:List At)(ι:Ren)(Z:List Nat):List SC->List SC->Bool
 |[],[]=>true
 |c::cs,b::a=>C6 D S bP as ι Z c b&&yE D S bP as ι Z cs a
 |_,_=>false
def Cy(D:iM)(S:bp)(bP:Nat)(as:List At)(ι:Ren)(Z:List Nat):bK->bK->Bool
 |_,.c .dead=>true
 |.c c,.c b=>C6 D S bP as ι Z c b
 |.agg cs,.agg a=>yE D S bP as ι Z cs a
 |_,_=>false
def Em(D:iM)(S:bp)(bP:Nat)(as:List At)(ι:Ren)(Z:List Nat):List bK->List bK->Bool
 |[],[]=>true
 |c::cs,b::a=>Cy D S bP as ι Z c b&&Em D S bP as ι Z cs a
 |_,_=>false
def M5(D:iM)(S:bp)(bP:Nat)(as:List At)(ι:Ren)(Z:List Nat):SV->SV->Bool
 |_,.v (.c .dead)=>true
 |.v x,.v b=>Cy D S bP as ι Z x b
 |.bq xs,.bq a=>Em D S bP as ι Z xs a
 |_,_=>false
def Dv(D:iM)(S:bp)(bP:Nat)(as:List At)(ι:Ren)(Z:List Nat):List SV->List SV->Bool
 |[],[]=>true
 |c::cs,b::a=>M5 D S bP as ι Z c b&&Dv D S bP as ι Z cs a
 |_,_=>false
def G_(D:iM)(S:bp)(bP:Nat)(as:List At)(ι:Ren)(Z:List Nat):SB->SB->Bool
 |.box cs,.box a=>yE D S bP as ι Z cs a
 |.row e x,.row b c=>e==b&& (c.par bP as).same x
 |.map,.map=>true
 |_,_=>false
theorem M1(b:ρ.length=bP)(d:D.ok S (ρ++ys)):∀{cs a:List SC},yE D S bP as ι Z cs a=true->xW (S.a6 (ρ++ys)) ι Z (cs.map (SC.a6 (ρ++ys))) (a.map (SC.a6 (ρ++as.map (At.ev (ρ++ys)))))
 |[],[],_=>trivial
 |c::cs,e::a,h=>by
  simp only[yE,cd]at h;exact⟨Yu b d h.1,M1 b d h.2⟩
 |[],_::_,h=>by cases h
 |_::_,[],h=>by cases h
theorem aaU(a:ρ.length=bP)(b:D.ok S (ρ++ys)){x d}(h:Cy D S bP as ι Z x d=true):um (S.a6 (ρ++ys)) ι Z (x.a6 (ρ++ys)) (d.a6 (ρ++as.map (At.ev (ρ++ys)))):=by
 unfold Cy at h;split at h
 .simp_all[bK.a6,SC.a6,um]
 .rename_i c e _;have:=Yu (ys:=ys) a b h;simp only[bK.a6];revert this;generalize SC.a6 (ρ++as.map (At.ev (ρ++ys))) e=f;intro this;cases f<;>first|exact this|trivial
 .exact M1 a b h
 .cases h
theorem XL(b:ρ.length=bP)(d:D.ok S (ρ++ys)):∀{cs a:List bK},Em D S bP as ι Z cs a=true->DO (S.a6 (ρ++ys)) ι Z (cs.map (bK.a6 (ρ++ys))) (a.map (bK.a6 (ρ++as.map (At.ev (ρ++ys)))))
 |[],[],_=>trivial
 |c::cs,e::a,h=>by
  simp only[Em,cd]at h;exact⟨aaU b d h.1,XL b d h.2⟩
 |[],_::_,h=>by cases h
 |_::_,[],h=>by cases h
theorem avr(b:ρ.length=bP)(d:D.ok S (ρ++ys)){x e}(h:M5 D S bP as ι Z x e=true):vd (S.a6 (ρ++ys)) ι Z (x.a6 (ρ++ys)) (e.a6 (ρ++as.map (At.ev (ρ++ys)))):=by
 unfold M5 at h;split at h
 .simp_all[SV.a6,bK.a6,SC.a6,vd]
 .rename_i y f _;have:=aaU (ys:=ys) b d h;simp only[SV.a6];revert this;generalize bK.a6 (ρ++as.map (At.ev (ρ++ys))) f=a;intro this
  cases a with
  |c a=>cases a<;>first|exact this|trivial
  |agg _=>exact this
 .exact XL b d h
 .cases h
theorem aak(b:ρ.length=bP)(d:D.ok S (ρ++ys)):∀{cs a:List SV},Dv D S bP as ι Z cs a=true->dP (S.a6 (ρ++ys)) ι Z (cs.map (SV.a6 (ρ++ys))) (a.map (SV.a6 (ρ++as.map (At.ev (ρ++ys)))))
 |[],[],_=>trivial
 |c::cs,e::a,h=>by
  simp only[Dv,cd]at h;exact⟨avr b d h.1,aak b d h.2⟩
 |[],_::_,h=>by cases h
 |_::_,[],h=>by cases h
theorem aqc(c:ρ.length=bP)(d:D.ok S (ρ++ys)){b a}(h:G_ D S bP as ι Z b a=true):VZ (S.a6 (ρ++ys)) ι Z (b.a6 (ρ++ys)) (a.a6 (ρ++as.map (At.ev (ρ++ys)))):=by
 cases b with
 |box cs=>
  cases a with
  |box f=>exact M1 c d h
  |_=>cases h
 |row e x=>
  cases a with
  |row g i=>
   simp only[G_,cd,beq_iff_eq]at h;refine⟨h.1,?_⟩;grind[At.KG,At.lJ]
  |_=>cases h
 |map=>
  cases a with
  |map=>rfl
  |_=>cases h
end
def uy(D:iM)(T:b_)(k0:Nat)(S S':bp)(bP:Nat)(as:List At)(ι:Ren)(Z:List Nat):Bool:=
 S'.bt.isEmpty&&decide ι.old.Nodup&&decide ι.new.Nodup&&decide (k0<=S'.next)&&decide (S'.nv=bP+as.length)&&
 (Z.all λn=> !ι.new.contains n&&decide (k0<=n)&&decide (n<S'.next)&&match List.lookup n S'.heap with
  |some (.row e x)=>(x.par bP as).same .r0&&match List.lookup e T with
   |some r=>decide (0<r.size)
   |none=>false
  |_=>false)&&
 (ι.all λx=>decide (x.2<S'.next)&& (decide (k0<=x.2)||x.1==x.2))&&
 Dv D S bP as ι Z S.tmps S'.tmps&&
 S'.heap.all λx=>Z.contains x.1||ι.any λy=>y.2==x.1&&match List.lookup y.1 S.heap with
  |some b=>G_ D S bP as ι Z b x.2
  |none=>false
theorem yD{D P T k0}(w:b_.ok P T){S S' bP as ι Z ρ ys}(g:ρ.length=bP)(q:D.ok S (ρ++ys))(h:uy D T k0 S S' bP as ι Z=true)(z:S.bt=[]):
 S'.bt=[]/\S'.nv=(ρ++as.map (At.ev (ρ++ys))).length/\∀X:Fx,X.P=P->X.k0=k0->Le X (S.a6 (ρ++ys)) (S'.a6 (ρ++as.map (At.ev (ρ++ys)))):=by
 unfold uy at h;simp only[cd,dj,adk]at h;obtain⟨⟨⟨⟨⟨⟨⟨⟨s,A⟩,B⟩,C⟩,E⟩,t⟩,u⟩,F⟩,v⟩:=h;refine⟨s,by simp[E,g],λX j k=>?_⟩;subst j k;refine mX.le (ι:=ι) (Z:=Z) z ?_;exact {
  bt:=s
  old:=A
  new:=B
  k0:=C
  zs :=λn G=>by
   simp only[cj,cd,o_,Bv,u6,dj]at t;obtain⟨⟨⟨a,c⟩,d⟩,i⟩:=t n G;refine⟨a,c,d,?_⟩;split at i
   .rename_i e x l;simp only[cd]at i;obtain⟨b1,o⟩:=i;split at o
    .rename_i r H;have:=w _ _ H;subst this;have I:0< (fc X.P e).size:=by simpa using o
     refine⟨e,?_,I⟩;rw[ep,l];simp only[bS,SB.a6];rw[<-At.KG (ys:=ys) g,At.lJ b1];rfl
    .cases o
   .cases i
  lt:=λx l=>by
   simp only[cj,cd,qu,dj,beq_iff_eq]at u;obtain⟨a,c⟩:=u x l;exact⟨a,λJ=>c.resolve_left om⟩
  tmps:=aak g q F
  heap :=λK M f=>by
   rw[ep]at f;simp only[bY]at f;obtain⟨N,p,rfl⟩:=f;simp only[cj,qu,Bv,dj,Bt,cd,beq_iff_eq]at v;rcases v _ (z8 p)with a| ⟨y,a,c,d⟩
   .exact .inl a
   .right;split at d
    .rename_i b f;obtain⟨n,m⟩:=y;subst c;exact⟨n,b.a6 (ρ++ys),a,by rw[ep,f];rfl,aqc g q d⟩
    .cases d}
end
section
open Go.RowKit
def aaX:cF->Nat
 |.tmp t=>1<<<t
 |_=>0
def aus(n:Nat)(o:Oper):Nat:=
 let n:=match o.dst,o.guard with
  |some t,none=>n^^^ (n&&& (1<<<t))
  |_,_=>n
 o.op.operands.toList.foldl (λn x=>n|||aaX x) n
def lv:Code->Nat->List (Nat×Nat)->Nat->Nat
 |.skip,n,_,_=>n
 |.region _ ops _,n,_,_=>ops.toList.reverse.foldl aus n
 |.seq a b,n,ex,r=>lv a (lv b n ex r) ex r
 |.cond c a b,n,ex,r=>aaX c|||lv a n ex r|||lv b n ex r
 |.block id c,n,ex,r=>lv c n ((id,n)::ex) r
 |.loop c,_,ex,r=>lv c 0 ex r
 |.exit id,_,ex,_=>(List.lookup id ex).getD 0
 |.ret,_,_,r=>r
 |.scope c,n,ex,r=>lv c n ex r
 |.label _,n,_,_=>n
 |_,_,_,_=>0
structure MG where
 np:Nat
 ps:List (List At×Nat)
 ns:List (List (Option Nat)×Nat)
 next:Nat
def RZ:List At->List At->Bool
 |[],[]=>true
 |x::xs,y::ys=>x.same y&&RZ xs ys
 |_,_=>false
def Fk(bP:Nat)(xs:List At)(g:MG):At×MG:=match xs with
 |x::r=>if x.in bP&&r.all (x.same ·)then(x,g)
  else match g.ps.find? (λp=>RZ p.1 xs)with
   |some p=>(.v (bP+p.2),g)
   |none=>(.v (bP+g.np),{g with np:=g.np+1,ps:=(xs,g.np)::g.ps})
 |[]=>(.b false,g)
def MJ(k0:Nat)(xs:List (Option Nat))(g:MG):Option (Nat×MG):=
 match g.ns.find? (λp=>p.1==xs)with
 |some p=>some (p.2,g)
 |none=>
  if g.ns.any λp=>(p.1.zip xs).any λa=>a.1.isSome&&a.1==a.2 then none
  else match xs with
   |some m::r=>if decide (m<k0)&&r.all (· ==some m)then some (m,{g with ns:=(xs,m)::g.ns})else some (g.next,{g with ns:=(xs,g.next)::g.ns,next:=g.next+1})
   |_=>some (g.next,{g with ns:=(xs,g.next)::g.ns,next:=g.next+1})
def abk(k0:Nat):List (List (Option Nat))->MG->Option (List Nat×MG)
 |[],g=>some ([],g)
 |xs::r,g=>match MJ k0 xs g with
  |some (n,g)=>match abk k0 r g with
   |some (a,g)=>some (n::a,g)
   |none=>none
  |none=>none
def UJ:List SC->Option Kd
 |[]=>none
 |.p k _::_=>some k
 |_::r=>UJ r
def Ij:SC->Bool
 |.nil=>true
 |.sub _ (.i 0) (.i 0)=>true
 |_=>false
def UB(_k0:Nat)(cs:List SC):Bool:=cs.all (λc=>match c with| .nil=>true| .own _=>true| .sub _ (.i 0) _=>true|_=>false)&&cs.any (λc=>match c with| .sub _ _ _=>true|_=>false)&&cs.any (λc=>match c with| .sub _ _ _=>false|_=>true)
def avT(k0:Nat)(cs:List SC):Option Kd:=if cs.all Ij||UB k0 cs then none else match UJ cs with
 |some k=>some k
 |none=>if cs.any (λc=>match c with| .sub _ _ _=>true|_=>false)&&cs.any (λc=>match c with| .sub _ _ _=>false|_=>true)then some .sl else none
def column:Nat->List (List Nat)->List (List (Option Nat))
 |0,_=>[]
 |n+1,xs=>xs.map List.head?::column n (xs.map List.tail)
def mC(k0 bP:Nat)(s:List dh)(cs:List SC)(g:MG):SC×MG:=
 match avT k0 cs with
 |some k=>match(cs.zip s).mapM (λ(x:SC×dh)=>match x.1 with
  |.p t x=>if k=t then some x else none
  |.own n=>if k=.sl then match List.lookup n x.2 with
   |some (.row _ y)=>some y
   |_=>none
   else none
  |.nil=>if k=.sl then some .r0 else none
  |.sub n _ _=>if k=.sl then some (.v (bP+1000000+1000*g.np+n))else none
  |_=>none)with
  |some xs=>let(x,g):=Fk bP xs g; (.p k x,g)
  |none=>(.dead,g)
 |none=>
  let named (f:SC->Option (Option Nat)) (k:Nat->MG->SC×MG):SC×MG:=match cs.mapM f with
   |some e=>match MJ k0 e g with
    |some (n,g)=>k n g
    |none=>(.dead,g)
   |none=>(.dead,g)
  let d (f:SC->At) (g:MG):At×MG:=Fk bP (cs.map f) g
  if cs.all (λc=>match c with| .nil=>true|_=>false)then(.nil,g)
  else if UB k0 cs&& !cs.all Ij then
   named (λc=>match c with| .own n=>some (some n)| .sub n _ _=>some (some n)| .nil=>some none|_=>none) λn g=>(.own n,g)
  else if cs.any (λc=>match c with| .own _=>true|_=>false)then
   named (λc=>match c with| .own n=>some (some n)| .nil=>some none|_=>none) λn g=>(.own n,g)
  else if cs.all Ij then named (λc=>match c with| .sub n _ _=>some (some n)| .nil=>some none|_=>none) λn g=>(.sub n (.i 0) (.i 0),g)
  else match cs with
   |.sub _ _ _::_=>named (λc=>match c with| .sub n _ _=>some (some n)|_=>none) λn g=>
    let(a,g):=d (λc=>match c with| .sub _ a _=>a|_=>.b false) g
    let(b,g):=d (λc=>match c with| .sub _ _ b=>b|_=>.b false) g
    (.sub n a b,g)
   |.ptr _ o::_=>named (λc=>match c with| .ptr n l=>if o=l then some (some n)else none|_=>none) λn g=>(.ptr n o,g)
   |.gN _ o r m _::_=>named (λc=>match c with| .gN n l u v _=>if o=l/\r=u/\m=v then some (some n)else none|_=>none) λn g=>
    let(i,g):=d (λc=>match c with| .gN _ _ _ _ i=>i|_=>.b false) g
    (.gN n o r m i,g)
   |.dy _ _ j::_=>named (λc=>match c with| .dy n _ p=>if j=p then some (some n)else none|_=>none) λn g=>
    let(i,g):=d (λc=>match c with| .dy _ i _=>i|_=>.b false) g
    (.dy n i j,g)
   |.ref _ j::_=>match cs.mapM (λc=>match c with| .ref x p=>if j=p then some x else none|_=>none)with
    |some xs=>let(x,g):=Fk bP xs g; (.ref x j,g)
    |none=>(.dead,g)
   |.fn f e::_=>match cs.mapM (λc=>match c with| .fn w h=>if f==w&&h.length==e.length then some h else none|_=>none)with
    |some q=>match abk k0 (column e.length q) g with
     |some (e,g)=>(.fn f e,g)
     |none=>(.dead,g)
    |none=>(.dead,g)
   |.mp _::_=>named (λc=>match c with| .mp n=>some (some n)|_=>none) λn g=>(.mp n,g)
   |_=>(.dead,g)
def Kr(k0 bP:Nat)(b:List dh):Nat->List (List SC)->MG->List SC×MG
 |0,_,g=>([],g)
 |n+1,a,g=>
  let(c,g):=mC k0 bP b (a.map λxs=>xs.headD .dead) g
  let(cs,g):=Kr k0 bP b n (a.map List.tail) g
  (c::cs,g)
def Y_(k0 bP:Nat)(b:List dh)(xs:List bK)(g:MG):bK×MG:=
 match xs.mapM (λx=>match x with| .c c=>some c|_=>none)with
 |some cs=>let(c,g):=mC k0 bP b cs g; (.c c,g)
 |none=>match xs.mapM (λx=>match x with| .agg cs=>some cs|_=>none)with
  |some (cs::a)=>if a.all (λc=>c.length==cs.length)then
   let(cs,g):=Kr k0 bP b cs.length (cs::a) g; (.agg cs,g)
   else(.c .dead,g)
  |_=>(.c .dead,g)
def Rn(k0 bP:Nat)(b:List dh):Nat->List (List bK)->MG->List bK×MG
 |0,_,g=>([],g)
 |n+1,a,g=>
  let(c,g):=Y_ k0 bP b (a.map λxs=>xs.headD (.c .dead)) g
  let(cs,g):=Rn k0 bP b n (a.map List.tail) g
  (c::cs,g)
def mV(k0 bP:Nat)(b:List dh)(xs:List SV)(g:MG):SV×MG:=
 match xs.mapM (λx=>match x with| .v c=>some c|_=>none)with
 |some cs=>let(c,g):=Y_ k0 bP b cs g; (.v c,g)
 |none=>match xs.mapM (λx=>match x with| .bq cs=>some cs|_=>none)with
  |some (cs::a)=>if a.all (λc=>c.length==cs.length)then
   let(cs,g):=Rn k0 bP b cs.length (cs::a) g; (.bq cs,g)
   else(.v (.c .dead),g)
  |_=>(.v (.c .dead),g)
def Se(k0 bP:Nat)(b:List dh)(live:Nat):Nat->Nat->List (List SV)->MG->List SV×MG
 |0,_,_,g=>([],g)
 |n+1,i,a,g=>
  let(c,g):=if live.testBit i then mV k0 bP b (a.map λxs=>xs.headD (.v (.c .dead))) g else(.v (.c .dead),g)
  let(cs,g):=Se k0 bP b live n (i+1) (a.map List.tail) g
  (c::cs,g)
def Tb:List (Option Nat)->List dh->Option SB
 |some n::_,h::_=>List.lookup n h
 |none::r,_::a=>Tb r a
 |_,_=>none
def mB(k0 bP:Nat)(a:List dh)(c:List (Option Nat))(g:MG):Option (SB×MG):=
 match Tb c a with
 |some (.box cs)=>match(c.zip a).mapM (λ(x:Option Nat×dh)=>match x.1 with
  |some n=>match List.lookup n x.2 with
   |some (.box b)=>if b.length==cs.length then some b else none
   |_=>none
  |none=>none)with
  |some d=>let(cs,g):=Kr k0 bP a cs.length d g;some (.box cs,g)
  |none=>none
 |some (.row e _)=>match(c.zip a).mapM (λ(x:Option Nat×dh)=>match x.1 with
  |some n=>match List.lookup n x.2 with
   |some (.row f y)=>if e==f then some y else none
   |_=>none
  |none=>some .r0)with
  |some xs=>let(x,g):=Fk bP xs g;some (.row e x,g)
  |none=>none
 |some .map=>if(c.zip a).all (λ(x:Option Nat×dh)=>match x.1 with
  |some n=>match List.lookup n x.2 with
   |some .map=>true
   |_=>false
  |none=>false)then some (.map,g)else none
 |none=>none
def Hb(k0 bP:Nat)(a:List dh):Nat->Nat->MG->dh->dh×MG
 |0,_,g,acc=>(acc,g)
 |fuel+1,i,g,acc=>if i<g.ns.length then
  match g.ns[g.ns.length-1-i]? with
  |some (xs,n)=>match mB k0 bP a xs g with
   |some (b,g)=>Hb k0 bP a fuel (i+1) g ((n,b)::acc)
   |none=>Hb k0 bP a fuel (i+1) g acc
  |none=>(acc,g)
  else(acc,g)
def merge(live k0 bP:Nat)(a:List bp):Option bp:=match a with
 |[]=>none
 |S::_=>
  let b:=a.map bp.heap
  let old:=((S.heap.map (·.1)).filter (λn=>decide (n<k0))).eraseDups
  let(tmps,g):=Se k0 bP b live S.tmps.length 0 (a.map bp.tmps) ⟨0,[],[],k0⟩
  let g:=old.foldl (λg m=>match MJ k0 (a.map λ_=>some m) g with
   |some (_,g)=>g
   |none=>g) g
  let(heap,g):=Hb k0 bP b 300 0 g []
  some ⟨tmps,heap.reverse,[],g.next,bP+g.np⟩
structure FG where
 as:List (Nat×At)
 ι:Ren
 Z:List Nat
def nJ(bP:Nat)(x y:At)(g:FG):FG:=match y with
 |.v j=>if bP<=j then
  (match List.lookup (j-bP) g.as with
  |some _=>g
  |none=> {g with as:=(j-bP,x)::g.as})
  else g
 |_=>g
def fN(n a:Nat)(g:FG):FG:=match List.lookup n g.ι with
 |some _=>g
 |none=> {g with ι:=(n,a)::g.ι}
def fC(D:iM)(bP:Nat)(h:dh)(c j:SC)(g:FG):FG:=match c,j with
 |.p _ x,.p _ y=>nJ bP x y g
 |.own n,.p _ y=>match List.lookup n h with
  |some (.row _ x)=>nJ bP x y g
  |_=>g
 |.nil,.p _ y=>nJ bP .r0 y g
 |.sub n a b,.p _ y=>match D.find? (λz=>z.1==n&&z.2.1.same a&&z.2.2.1.same b)with
  |some z=>nJ bP z.2.2.2 y g
  |none=>g
 |.nil,.own d=>if g.Z.contains d then g else{g with Z:=d::g.Z}
 |.nil,.sub d _ _=>if g.Z.contains d then g else{g with Z:=d::g.Z}
 |.own n,.own d=>fN n d g
 |.sub n a b,.sub d k l=>nJ bP b l (nJ bP a k (fN n d g))
 |.ptr n _,.ptr d _=>fN n d g
 |.gN n _ _ _ i,.gN d _ _ _ e=>nJ bP i e (fN n d g)
 |.dy n i _,.dy d e _=>nJ bP i e (fN n d g)
 |.ref x _,.ref y _=>nJ bP x y g
 |.fn _ m,.fn _ f=>(m.zip f).foldl (λg x=>fN x.1 x.2 g) g
 |.mp n,.mp d=>fN n d g
 |_,_=>g
def fCs(D:iM)(bP:Nat)(h:dh)(xs ys:List SC)(g:FG):FG:=(xs.zip ys).foldl (λg x=>fC D bP h x.1 x.2 g) g
def Yv(D:iM)(bP:Nat)(h:dh)(x y:bK)(g:FG):FG:=match x,y with
 |.c x,.c y=>fC D bP h x y g
 |.agg x,.agg y=>fCs D bP h x y g
 |_,_=>g
def fV(D:iM)(bP:Nat)(h:dh)(x y:SV)(g:FG):FG:=match x,y with
 |.v x,.v y=>Yv D bP h x y g
 |.bq xs,.bq ys=>(xs.zip ys).foldl (λg x=>Yv D bP h x.1 x.2 g) g
 |_,_=>g
def fB(D:iM)(bP:Nat)(h:dh)(x y:SB)(g:FG):FG:=match x,y with
 |.box xs,.box ys=>fCs D bP h xs ys g
 |.row _ x,.row _ y=>nJ bP x y g
 |_,_=>g
def KF(D:iM)(bP:Nat)(h a:dh):Nat->Nat->FG->FG
 |0,_,g=>g
 |fuel+1,i,g=>if i<g.ι.length then
  match g.ι[g.ι.length-1-i]? with
  |some (n,c)=>match List.lookup n h,List.lookup c a with
   |some b,some d=>KF D bP h a fuel (i+1) (fB D bP h b d g)
   |_,_=>KF D bP h a fuel (i+1) g
  |none=>g
  else g
def aiW(D:iM)(k0 bP:Nat)(S' S:bp):List At×Ren×List Nat:=
 let old:=((S'.heap.map (·.1)).filter (λn=>decide (n<k0))).eraseDups
 let g:FG:=⟨[],old.map λn=>(n,n),[]⟩
 let g:=(S.tmps.zip S'.tmps).foldl (λg x=>fV D bP S.heap x.1 x.2 g) g
 let g:=KF D bP S.heap S'.heap 300 0 g
 let g:=g.Z.foldl (λg n=>match List.lookup n S'.heap with
  |some (.row _ y)=>nJ bP .r0 y g
  |_=>g) g
 ((List.range (S'.nv-bP)).map λp=>(List.lookup p g.as).getD (.b false),g.ι,g.Z)
end
section
open Go.RowKit
open Classical
def a8.pI:a8->List bp
 |.br (.st .normal S)=>[S]
 |.br _=>[]
 |.op _ k=>k.pI
 |.ite _ a b=>a.pI++b.pI
 |.join a b=>a.pI++b.pI
 |.loop _ b=>b.pI
def a8.inLoop:Bool->a8->Bool
 |u,.br (.st .normal _)=>u
 |_,.br _=>false
 |u,.op _ k=>k.inLoop u
 |u,.ite _ a b=>a.inLoop u||b.inLoop u
 |u,.join a b=>a.inLoop u||b.inLoop u
 |_,.loop _ b=>b.inLoop true
def sM(S:bp):Nat->List (SV×SV)->List Nd×iM
 |_,[]=>([],[])
 |m,(x,y)::r=>match x,y with
  |.v (.c (.sub n a b)),.v (.c (.p .sl _))=>match S.view m (.sub n a b)with
   |some (nds,z)=>match sM S (m+gy nds) r with
    |(us,D)=>(nds++us,(n,a,b,z)::D)
   |none=>sM S m r
  |_,_=>sM S m r
theorem Cf{S:bp}{ρ:List L}:∀{l:List (SV×SV)}{m:Nat},Sat ρ m (sM S m l).1->(sM S m l).2.ok S ρ
 |[],_,_=>λz b=>by cases b
 |(x,y)::r,m,h=>by
  unfold sM at h⊢;split at h
  .split at h
   .rename_i nds z c;obtain⟨d,e⟩:=Sat.app h;intro w a;rcases dn.1 a with rfl|a
    .exact qy c d
    .exact Cf e w a
   simp_all[Cf]
  .exact Cf h
def nY(T:b_)(k0 bP:Nat)(S':bp)(d:Nat)(e:Ex)(S:bp):Option a8:=match e with
 |.normal=>match sM S S.nv (S.tmps.zip S'.tmps)with
  |(nds,D)=>match aiW D k0 bP S' S with
   |(as,ι,Z)=>if(uy D T k0 S S' bP as ι Z&&ti S.nv nds&& (nds.isEmpty||S.in S.nv))=true then some (nds.foldr .op (.br (.jump d as)))else none
 |e=>some (.br (.st e S))
def SC.cut(n:Nat)(b:At):SC->SC
 |.sub m (.i 0) a=>if m=n then(if a.same b then .own n else .dead)else .sub m (.i 0) a
 |c=>if c.names.contains n then .dead else c
def SB.cut(n:Nat)(b:At):SB->SB
 |.box cs=>.box (cs.map (SC.cut n b))
 |x=>x
def bp.cut(S:bp)(n:Nat)(b:At)(e:cg)(v:At):bp:={S with
 tmps:=S.tmps.map (SV.fh (SC.cut n b))
 heap:=S.heap.map λx=>(x.1,if x.1=n then .row e v else x.2.cut n b)}
def cutAt(k0:Nat)(h:dh):Nat->List (SV×SV)->Option (Nat×Nat×At×cg×At)
 |_,[]=>none
 |i,(x,y)::r=>match x,y with
  |.v (.c (.sub n (.i 0) b)),.v (.c (.own _))=>if k0<=n then match List.lookup n h with
   |some (.row e x)=>some (i,n,b,e,x)
   |_=>cutAt k0 h (i+1) r
   else cutAt k0 h (i+1) r
  |_,_=>cutAt k0 h (i+1) r
def RD(k0:Nat)(S:bp)(i n:Nat)(b:At)(ty:cg)(x:At):Bool:=S.in S.nv&&ti S.nv [.tk x b]&& (match S.tmps[i]? with
 |some (.v (.c (.sub a (.i 0) c)))=>a==n&&c.same b
 |_=>false)&&decide (k0<=n)&& (match List.lookup n S.heap with
 |some (.row d e)=>d==ty&&e.same x
 |_=>false)
def pF(T:b_)(k0 bP:Nat)(S':bp)(d:Nat)(e:Ex)(S:bp):Option a8:=match e with
 |.normal=>match cutAt k0 S.heap 0 (S.tmps.zip S'.tmps)with
  |some (i,n,b,ty,x)=>if RD k0 S i n b ty x=true then(nY T k0 bP S' d .normal ((S.cut n b ty (.v S.nv)).more 1)).map (.op (.tk x b))else none
  |none=>nY T k0 bP S' d .normal S
 |e=>nY T k0 bP S' d e S
def SC.sw(n m:Nat):SC->SC
 |.own k=>.own (if k=n then m else k)
 |.sub k a b=>.sub (if k=n then m else k) a b
 |.ptr k o=>.ptr (if k=n then m else k) o
 |.gN k o c l i=>.gN (if k=n then m else k) o c l i
 |.dy k i j=>.dy (if k=n then m else k) i j
 |.fn f d=>.fn f (d.map λk=>if k=n then m else k)
 |.mp k=>.mp (if k=n then m else k)
 |c=>c
def SB.sw(n m:Nat):SB->SB
 |.box cs=>.box (cs.map (SC.sw n m))
 |x=>x
def asE(k0:Nat)(S S':bp):Option (bp×Ren):=match(S.tmps.zip S'.tmps).findSome? (λx=>match x with
 |(.v (.c (.sub n (.i 0) _)),.v (.c (.own _)))=>if n<k0 then some n else none
 |_=>none)with
 |some n=>some ({S with tmps:=S.tmps.map (SV.fh (SC.sw n S.next)),heap:=S.heap.map (λx=>(if x.1=n then S.next else x.1,x.2.sw n S.next)),next:=S.next+1},
  ((S.heap.map (·.1)).eraseDups).map λk=>(k,if k=n then S.next else k))
 |none=>none
def jmp(T:b_)(k0 bP:Nat)(S':bp)(d:Nat)(e:Ex)(S:bp):Option a8:=match e with
 |.normal=>match asE k0 S S' with
  |some (a,ι)=>if uy [] T k0 S a S.nv [] ι []=true then pF T k0 bP S' d .normal a else none
  |none=>pF T k0 bP S' d .normal S
 |e=>pF T k0 bP S' d e S
def inl(k:bp->Option a8)(_:Nat)(e:Ex)(S:bp):Option a8:=match e with
 |.normal=>k S
 |e=>some (.br (.st e S))
def cont(T:b_)(k0 live bP:Nat)(k:bp->Option a8)(t:a8):Option a8:=
 if decide (t.pI.length<=1)&& !t.inLoop false then t.bind (inl k) 0
 else match merge live k0 bP t.pI with
  |some S'=>match t.bind (jmp T k0 bP S') 0,k S' with
   |some u,some rest=>some (.join u rest)
   |_,_=>none
  |none=>none
def a8.V6:a8->Bool
 |.br _=>true
 |.op _ k=>V6 k
 |_=>false
def C5(T:b_)(k0 live:Nat)(body:bp->Option a8):Nat->bp->Option a8
 |0,_=>none
 |n+1,S=>match body S with
  |some t=>if t.V6 then cont T k0 live S.nv (C5 T k0 live body n) t else none
  |none=>none
def Fj(T:b_)(k0 live:Nat)(body:bp->Option a8)(S:bp):Nat->List bp->Option a8
 |0,_=>none
 |fuel+1,a=>match merge live k0 S.nv a with
  |some S'=>match body S' with
   |some t=>match jmp T k0 S.nv S' 0 .normal S,t.bind (jmp T k0 S.nv S') 0 with
    |some (.br (.jump _ as)),some u=>if S'.bt.isEmpty then some (.loop as u)else none
    |_,_=>Fj T k0 live body S fuel (S::t.pI)
   |none=>none
  |none=>none
def qB:Code->Nat
 |.region _ ops _=>ops.toList.foldl (λn o=>match o.dst with
  |some t=>n||| (1<<<t)
  |none=>n) 0
 |.seq a b=>qB a|||qB b
 |.cond _ a b=>qB a|||qB b
 |.block _ c=>qB c
 |.loop c=>qB c
 |.scope c=>qB c
 |_=>0
def SC.any(k:Nat):SC->SC
 |.p a _=>.p a (.v k)
 |c=>c
def SV.any(k:Nat):SV->SV
 |.v (.c c)=>.v (.c (c.any k))
 |.v (.agg cs)=>.v (.agg (cs.zipIdx.map λx=>x.1.any (k+x.2)))
 |x=>x
def oU(T:b_)(c:Code)(S:bp):List bp:=match List.lookup 999997 T with
 |some _=>[S,{S with tmps:=S.tmps.zipIdx.map λx=>if(qB c).testBit x.2 then x.1.any (2000000+S.nv+1000*x.2)else x.1}]
 |none=>[S]
def exec(T:b_)(C:dt)(k0:Nat):Code->Nat->List (Nat×Nat)->Nat->bp->Option a8
 |.skip,_,_,_,S=>some (.br (.st .normal S))
 |.region _ ops draw,_,_,_,S=>er T C ops draw S
 |.seq a b,n,ex,r,S=>match exec T C k0 a (lv b n ex r) ex r S with
  |some t=>cont T k0 (lv b n ex r) S.nv (exec T C k0 b n ex r) t
  |none=>none
 |.cond c a b,n,ex,r,S=>match S.arg c with
  |some (.v (.c (.p .bool (.b true))))=>exec T C k0 a n ex r S
  |some (.v (.c (.p .bool (.b false))))=>exec T C k0 b n ex r S
  |some (.v (.c (.p .bool x)))=>match exec T C k0 a n ex r S,exec T C k0 b n ex r S with
   |some u,some v=>some (.ite x u v)
   |_,_=>none
  |_=>none
 |.block id c,n,ex,r,S=>match exec T C k0 c n ((id,n)::ex) r S with
  |some t=>t.bind (λ_ e S=>some (.br (.st (if e=.exit id then .normal else e) S))) 0
  |none=>none
 |.loop c,_,ex,r,S=>match Fj T k0 (lv c 0 ex r) (exec T C k0 c (lv c 0 ex r) ex r) S 5 (oU T c S)with
  |some u=>some u
  |none=>C5 T k0 (lv c 0 ex r) (exec T C k0 c (lv c 0 ex r) ex r) 600 S
 |.exit id,_,_,_,S=>some (.br (.st (.exit id) S))
 |.ret,_,_,_,S=>some (.br (.st .ret S))
 |.scope c,n,ex,r,S=>exec T C k0 c n ex r S
 |.label _,_,_,_,S=>some (.br (.st .normal S))
 |_,_,_,_,_=>none
def oH(P:cD)(k0:Nat)(c:Code)(S:bp)(t:a8):Prop:=∀ρ x ρ',ρ.length=S.nv->t.a6 ρ=some (x,ρ')->Good P k0 c S ρ x ρ'
theorem qX{f}{t u:a8}{ρ o}
 (i:∀x a,t.a6 ρ=some (x,a)->∃e S,x=.st e S)
 (H:∀e S a,t.a6 ρ=some (.st e S,a)->∀d g,f d e S=some g->g.a6 a=((f 0 e S).bind (·.a6 a)).map (lift d))
 (h:t.bind f 0=some u) (j:u.a6 ρ=some o):∃e S a v,t.a6 ρ=some (.st e S,a)/\f 0 e S=some v/\v.a6 a=some o:=by
 have b:=pQ (f:=f) (R:=λe S a=>(f 0 e S).bind (·.a6 a)) (t:=t) (u:=u) (d:=0) (ρ:=ρ) H h;rw[j]at b
 cases c:t.a6 ρ with
 |none=>rw[c]at b;cases b
 |some y=>
  obtain⟨x,a⟩:=y;obtain⟨e,S,rfl⟩:=i x a c;rw[c]at b;simp only[after]at b
  cases k:f 0 e S with
  |none=>simp_all
  |some v=>
   grind
theorem Good.bare{P k0 c S ρ ρ' x}(h:Good P k0 c S ρ x ρ'):∃e S',x=.st e S':=by
 obtain⟨e,S',a,_⟩:=h;simp_all
theorem VG{d o}(h:∀x ρ,o=some (x,ρ)->∃e S,x=.st e S):o=o.map (lift d):=by
 cases o with
 |none=>rfl
 |some y=>
  obtain⟨x,ρ⟩:=y;obtain⟨e,S,rfl⟩:=h x ρ rfl;rfl
theorem G7{T k0 bP S' d e S b a}(h:nY T k0 bP S' d e S=some b):b.a6 a=((nY T k0 bP S' 0 e S).bind (·.a6 a)).map (lift d):=by
 cases e with
 |normal=>
  simp only[nY]at h⊢;split at h
  .rename_i c;cases h;rw[bF c];simp only[GZ,CN];split
   .simp_all[a8.a6,bS,lift]
   .rfl
  .cases h
 |_=>cases h;rfl
theorem H4{T k0 bP S' d e S f c}(h:pF T k0 bP S' d e S=some f):f.a6 c=((pF T k0 bP S' 0 e S).bind (·.a6 c)).map (lift d):=by
 cases e with
 |normal=>
  simp only[pF]at h⊢;split at h
  .rename_i i n b ty x hcut;split at h
   .rename_i j;rw[bF j];simp only[bY]at h;obtain⟨u,k,rfl⟩:=h;have key:∀a,u.a6 a=((nY T k0 bP S' 0 .normal ((S.cut n b ty (.v S.nv)).more 1)).bind (·.a6 a)).map (lift d):=λa=>G7 k
    cases g:nY T k0 bP S' 0 .normal ((S.cut n b ty (.v S.nv)).more 1)with
    |none=>
     simp only[g,Option.bind_none,adj]at key;simp only[a8.a6,key,adj,Option.bind_none];split<;>rfl
    |some l=>
     simp only[g,GZ]at key;simp only[bS,GZ,a8.a6,key];split<;>rfl
   .cases h
  .exact G7 h
 |_=>simp only[pF]at h⊢;exact G7 h
theorem DE{T k0 bP S' d e S b a}(h:jmp T k0 bP S' d e S=some b):b.a6 a=((jmp T k0 bP S' 0 e S).bind (·.a6 a)).map (lift d):=by
 cases e with
 |normal=>
  simp only[jmp]at h⊢;split at h
  .split at h
   .rename_i c;rw[bF c];exact H4 h
   .cases h
  .exact H4 h
 |_=>simp only[jmp]at h⊢;exact H4 h
theorem Th{P T}(i:b_.ok P T){k0 S S' ρ ys bP}(j:ρ.length=bP)(d:S.nv=(ρ++ys).length){v o}(k:S.bt=[])(h:nY T k0 bP S' 0 .normal S=some v)(c:v.a6 (ρ++ys)=some o):
 ∃as b,o=(.jump 0 as,ρ++ys++b)/\S'.bt=[]/\S'.nv=(ρ++as.map (At.ev (ρ++ys++b))).length/\∀X:Fx,X.P=P->X.k0=k0->Le X (S.a6 (ρ++ys)) (S'.a6 (ρ++as.map (At.ev (ρ++ys++b)))):=by
 simp only[nY]at h;split at h
 .rename_i e;cases h;simp only[cd,qu]at e;obtain⟨⟨l,p⟩,q⟩:=e;rw[CN]at c;split at c
  .rename_i ρ' f;cases c;obtain⟨b,m,e2⟩:=CA f;subst m;have a:=Nk (ys:=[]) (by simp_all) f;rw[ju,<-d]at a;have n:S.a6 (ρ++ys++b)=S.a6 (ρ++ys):=by
    grind[gy,bp.kc]
   have g:=Cf (S:=S) a;rw[eU]at g;have:=yD i j g l k;grind
  .cases c
 .cases h
theorem SC.o3{ρ n b}(c:SC):tt n (b.ev ρ).a_.toNat (c.a6 ρ) ((c.cut n b).a6 ρ):=by
 have a:∀c:SC,tt n (b.ev ρ).a_.toNat (c.a6 ρ) ((if c.names.contains n then SC.dead else c).a6 ρ):=by
  intro c;split
  .exact .inl rfl
  .rename_i d;exact .inr (.inl ⟨rfl,by rw[SC.mG];simpa using d⟩)
 unfold SC.cut;split
 .split
  .rename_i h;subst h;split
   .rename_i k;rw[At.lJ k];exact .inr (.inr ⟨rfl,rfl⟩)
   .exact .inl rfl
  .exact .inr (.inl ⟨rfl,by simp only[SC.a6,C.names,fO];omega⟩)
 .exact a _
theorem bK.o3{ρ n b}(x:bK):zb n (b.ev ρ).a_.toNat (x.a6 ρ) ((x.fh (SC.cut n b)).a6 ρ):=by
 cases x with
 |c c=>
  have:=SC.o3 (ρ:=ρ) (n:=n) (b:=b) c;simp only[bK.fh,bK.a6];revert this;generalize SC.a6 ρ (SC.cut n b c)=a;intro h;cases a<;>first|trivial|exact h
 |agg cs=>
  refine⟨by simp,λi a d=>?_⟩;simp only[cN,GR,bY,Function.comp]at d;obtain⟨c,k,rfl⟩:=d;exact⟨c.a6 ρ,by simp[k],SC.o3 c⟩
theorem SV.o3{ρ n b}(x:SV):T9 n (b.ev ρ).a_.toNat (x.a6 ρ) ((x.fh (SC.cut n b)).a6 ρ):=by
 cases x with
 |v x=>
  have:=bK.o3 (ρ:=ρ) (n:=n) (b:=b) x;simp only[SV.fh,SV.a6];revert this;generalize bK.a6 ρ (bK.fh (SC.cut n b) x)=y;intro h
  cases y with
  |c c=>cases c<;>first|trivial|exact h
  |agg=>exact h
 |bq xs=>
  refine⟨by simp,λi k a=>?_⟩;simp only[cN,GR,bY,Function.comp]at a;obtain⟨c,d,rfl⟩:=a;exact⟨c.a6 ρ,by simp[d],bK.o3 c⟩
theorem SB.o3{ρ n b}(x:SB):abY n (b.ev ρ).a_.toNat (x.a6 ρ) ((x.cut n b).a6 ρ):=by
 cases x with
 |box cs=>
  refine⟨by simp,λi h a=>?_⟩;simp only[cN,GR,bY,Function.comp]at a;obtain⟨c,d,rfl⟩:=a;exact⟨c.a6 ρ,by simp[d],SC.o3 c⟩
 |row e x=>exact⟨rfl,rfl⟩
 |map=>rfl
theorem Zu{f:Nat->SB->SB}{m}:∀{h:dh},List.lookup m (h.map λx=>(x.1,f x.1 x.2))=(List.lookup m h).map (f m)
 |[]=>rfl
 |(k,b)::h=>by
  simp only[ct,hX];split
  .simp_all
  .exact Zu
theorem afr{ρ}{S:bp}{k0 n i:Nat}{b v x e}(hg:S.bt=[])(hk:k0<=n)(hi:S.tmps[i]?=some (.v (.c (.sub n (.i 0) b))))(hl:List.lookup n S.heap=some (.row e x))(hv:(v.ev ρ).bm=(x.ev ρ).bm.take (b.ev ρ).a_.toNat):
 H0 k0 (S.a6 ρ) ((S.cut n b e v).a6 ρ) n (b.ev ρ).a_.toNat e (x.ev ρ).bm where
 k0:=hk
 bt:=hg
 next:=rfl
 row:=by rw[ep,hl];rfl
 told:=⟨i,by simp only[bp.a6,cN,hi];rfl⟩
 len:=by simp[bp.a6,bp.cut]
 tmps:=λj v' hj=>by
  simp only[bp.a6,bp.cut,cN,GR,bY,Function.comp]at hj;obtain⟨y,hy,rfl⟩:=hj;simp_all[bp.a6,SV.o3]
 heap:=λm b' hb=>by
  rw[ep]at hb;simp only[bY]at hb;obtain⟨b0,hb0,rfl⟩:=hb;have hb0:List.lookup m (S.heap.map λx=>(x.1,(λm b1=>if m=n then SB.row e v else b1.cut n b) x.1 x.2))=some b0:=hb0;rw[Zu (f:=λm b1=>if m=n then SB.row e v else b1.cut n b)]at hb0;simp only[bY]at hb0;obtain⟨b1,hb1,rfl⟩:=hb0;by_cases hm:m=n
  .left;subst hm;exact⟨rfl,by simp only[if_true,SB.a6,hv]⟩
  .right;refine⟨hm,b1.a6 ρ,by rw[ep,hb1];rfl,?_⟩;simp_all[SB.o3]
theorem QW{P T}(t:b_.ok P T){k0 S S' ρ ys bP}(z:ρ.length=bP)(A:S.nv=(ρ++ys).length){v o}(g:S.bt=[])(h:pF T k0 bP S' 0 .normal S=some v)(B:v.a6 (ρ++ys)=some o):
 ∃as c,o=(.jump 0 as,ρ++ys++c)/\S'.bt=[]/\S'.nv=(ρ++as.map (At.ev (ρ++ys++c))).length/\∀X:Fx,X.P=P->X.k0=k0->Le X (S.a6 (ρ++ys)) (S'.a6 (ρ++as.map (At.ev (ρ++ys++c)))):=by
 simp only[pF]at h;split at h
 .rename_i i n b ty x hcut;split at h
  .rename_i q;simp only[RD,cd,dj]at q;obtain⟨⟨⟨⟨c1,c2⟩,c3⟩,c4⟩,c5⟩:=q;simp only[bY]at h;obtain⟨u,C,rfl⟩:=h;have E:S.tmps[i]?=some (.v (.c (.sub n (.i 0) b))):=by
    split at c3
    .rename_i M N j;simp only[cd,beq_iff_eq]at c3;obtain⟨rfl,k⟩:=c3;rw[j,At.lJ k]
    .cases c3
   have l:List.lookup n S.heap=some (.row ty x):=by
    split at c5
    .rename_i O Q j;simp only[cd,beq_iff_eq]at c5;obtain⟨rfl,k⟩:=c5;rw[j,At.lJ k]
    .cases c5
   let r:L:=.r (((x.ev (ρ++ys)).bm).take (b.ev (ρ++ys)).a_.toNat)
   have m:u.a6 (ρ++(ys++[r]))=some o:=by rw[<-eU];exact B
   obtain⟨as,c,j1,F,G,H⟩:=Th (S:=(S.cut n b ty (.v S.nv)).more 1) t z (by grind[bp.more,bp.cut]) g C m;simp only[ti,Nd.in,cd,Bool.and_true]at c2;have s:∀y:At,y.in S.nv=true->y.ev (ρ++(ys++[r]))=y.ev (ρ++ys):=λy R=>by
    grind[At.eY]
   have I:((At.v S.nv).ev (ρ++(ys++[r]))).bm=((x.ev (ρ++(ys++[r]))).bm).take (b.ev (ρ++(ys++[r]))).a_.toNat:=by
    rw[s x c2.1,s b c2.2];have:(ρ++(ys++[r]))[S.nv]?=some r:=by
     simp_all
    show(((ρ++(ys++[r]))[S.nv]?).getD (.b false)).bm=_;rw[this];rfl
   have d:=afr (ρ:=ρ++(ys++[r])) (k0:=k0) (v:=.v S.nv) g c4 E l I;have e:S.a6 (ρ++(ys++[r]))=S.a6 (ρ++ys):=by grind[bp.kc]
   rw[e]at d;refine⟨as,r::c,?_,F,?_,λX p f=>?_⟩
   .rw[j1];simp
   .simpa using G
   .have:=H X p f;subst f;have J:ρ++ys++r::c=ρ++(ys++[r])++c:=by simp
    rw[J];exactλa w K=>this a w (d.le g a w K)
  .cases h
 grind[Th]
theorem kB{P T}(d:b_.ok P T){k0 S S' ρ ys bP}(j:ρ.length=bP)(c:S.nv=(ρ++ys).length){v o}(k:S.bt=[])(h:jmp T k0 bP S' 0 .normal S=some v)(l:v.a6 (ρ++ys)=some o):
 ∃as b,o=(.jump 0 as,ρ++ys++b)/\S'.bt=[]/\S'.nv=(ρ++as.map (At.ev (ρ++ys++b))).length/\∀X:Fx,X.P=P->X.k0=k0->Le X (S.a6 (ρ++ys)) (S'.a6 (ρ++as.map (At.ev (ρ++ys++b)))):=by
 simp only[jmp]at h;split at h
 .split at h
  .rename_i m;obtain⟨n,e,f⟩:=yD (D:=[]) (ρ:=ρ++ys) (ys:=[]) d c.symm (λz p=>by cases p) m k;simp only[dp,ju]at e f;obtain⟨as,b,j1,q,r,s⟩:=QW d j e n h l;exact⟨as,b,j1,q,r,λX g i a w t=>s X g i a w (f X g i a w t)⟩
  .cases h
 grind[QW]
theorem ajz{P T}(Y:b_.ok P T){k0 live a b k S t u}(E:oH P k0 a S t)
 (I:∀r u,r.bt=[]->k r=some u->oH P k0 b r u) (h:cont T k0 live S.nv k t=some u):oH P k0 (.seq a b) S u:=by
 intro ρ x ρ' B p;unfold cont at h;split at h
 .obtain⟨e,j,f,v,J,s,y⟩:=qX (λx f F=>(E ρ x f B F).bare) (λe j f O d R C=>by
   cases e with
   |normal=>
    simp only[inl]at C⊢;rw[C];obtain⟨U,G,H,l,z,m,q⟩:=E ρ _ _ B O;cases H;exact VG λx K F=>(I j R m C f x K l.symm F).bare
   |_=>cases C;rfl) h p
  obtain⟨U,G,H,l,⟨ys,z⟩,m,q⟩:=E ρ _ _ B J;cases H
  cases e with
  |normal=>
   obtain⟨e2,r,k1,k2,⟨V,W⟩,M,N⟩:=I j v m s f x ρ' l.symm y;exact⟨e2,r,k1,k2,⟨ys++V,by simp_all⟩,M,λX g c Q i=>gg (q X g c _ (N X g c Q i))⟩
  |exit id=>cases s;cases y;exact⟨.exit id,j,rfl,l,⟨ys,z⟩,m,λX g c Q i=>gg (q X g c _ i)⟩
  |ret=>cases s;cases y;exact⟨.ret,j,rfl,l,⟨ys,z⟩,m,λX g c Q i=>gg (q X g c _ i)⟩
 .split at h
  .rename_i S' aa;split at h
   .rename_i w rest hw A;cases h;simp only[a8.a6]at p
    cases n:w.a6 ρ with
    |none=>simp_all
    |some o=>
     obtain⟨e,j,f,v,J,s,y⟩:=qX (λx f F=>(E ρ x f B F).bare) (λe j f O d R C=>DE C) hw n;obtain⟨U,G,H,l,⟨ys,z⟩,m,q⟩:=E ρ _ _ B J;cases H
     cases e with
     |normal=>
      subst z;obtain⟨as,ab,j1,j2,j3,j4⟩:=kB Y B l m s y;subst j1;rw[n]at p;obtain⟨e2,r,k1,k2,⟨V,W⟩,M,N⟩:=I S' rest j2 A _ x ρ' j3.symm p;exact⟨e2,r,k1,k2,⟨_,by rw[W,eU]⟩,M,λX g c Q i=>gg (q X g c _ (Sy (j4 X g c) (N X g c Q i)))⟩
     |exit id=>
      cases s;cases y;rw[n]at p;cases p;exact⟨.exit id,j,rfl,l,⟨ys,z⟩,m,λX g c Q i=>gg (q X g c _ i)⟩
     |ret=>
      cases s;cases y;rw[n]at p;cases p;exact⟨.ret,j,rfl,l,⟨ys,z⟩,m,λX g c Q i=>gg (q X g c _ i)⟩
   .cases h
  .cases h
def Hk(P:cD)(k0:Nat)(A:Fx->(Exit->bz->Prop)->bz->Prop)(S:bp)(t:a8):Prop:=∀ρ x ρ',ρ.length=S.nv->t.a6 ρ=some (x,ρ')->
 ∃e S',x=.st e S'/\S'.nv=ρ'.length/\(∃ys,ρ'=ρ++ys)/\S'.bt=[]/\∀X:Fx,X.P=P->X.k0=k0->∀Q:Exit->bz->Prop,Q e.to (S'.a6 ρ')->A X Q (S.a6 ρ)
theorem afq{P T}(hT:b_.ok P T){k0 live a A}(J:∀X Q st st',Le X st st'->A X Q st'->A X Q st){k S t u}(F:oH P k0 a S t)
 (K:∀r u,r.bt=[]->k r=some u->Hk P k0 A r u) (h:cont T k0 live S.nv k t=some u):Hk P k0 (λX Q=>Aw X a (z6 (A X Q) Q)) S u:=by
 intro ρ x ρ' C n;unfold cont at h;split at h
 .obtain⟨e,i,c,v,M,s,y⟩:=qX (λx c G=>(F ρ x c C G).bare) (λe i c U d V E=>by
   cases e with
   |normal=>
    simp only[inl]at E⊢;rw[E];obtain⟨W,H,I,j,z,l,p⟩:=F ρ _ _ C U;cases I;exact VG λx N G=>(by obtain⟨e,S',q,_⟩:=K i V l E c x N j.symm G;simp_all)
   |_=>cases E;rfl) h n
  obtain⟨W,H,I,j,⟨ys,z⟩,l,p⟩:=F ρ _ _ C M;cases I
  cases e with
  |normal=>
   obtain⟨e2,r,k1,k2,⟨Y,k3⟩,O,R⟩:=K i v l s c x ρ' j.symm y;exact⟨e2,r,k1,k2,⟨ys++Y,by simp_all⟩,O,λX f b Q g=>p X f b _ (R X f b Q g)⟩
  |exit id=>cases s;cases y;exact⟨.exit id,i,rfl,j,⟨ys,z⟩,l,λX f b Q g=>p X f b _ g⟩
  |ret=>cases s;cases y;exact⟨.ret,i,rfl,j,⟨ys,z⟩,l,λX f b Q g=>p X f b _ g⟩
 .split at h
  .rename_i S' aa;split at h
   .rename_i w rest hw B;cases h;simp only[a8.a6]at n
    cases m:w.a6 ρ with
    |none=>simp_all
    |some o=>
     obtain⟨e,i,c,v,M,s,y⟩:=qX (λx c G=>(F ρ x c C G).bare) (λe i c U d V E=>DE E) hw m;obtain⟨W,H,I,j,⟨ys,z⟩,l,p⟩:=F ρ _ _ C M;cases I
     cases e with
     |normal=>
      subst z;obtain⟨as,ab,j1,j2,j3,j4⟩:=kB hT C j l s y;subst j1;rw[m]at n;obtain⟨e2,r,k1,k2,⟨Y,k3⟩,O,R⟩:=K S' rest j2 B _ x ρ' j3.symm n;exact⟨e2,r,k1,k2,⟨_,by rw[k3,eU]⟩,O,λX f b Q g=>p X f b _ (J X _ _ _ (j4 X f b) (R X f b Q g))⟩
     |exit id=>
      cases s;cases y;rw[m]at n;cases n;exact⟨.exit id,i,rfl,j,⟨ys,z⟩,l,λX f b Q g=>p X f b _ g⟩
     |ret=>
      cases s;cases y;rw[m]at n;cases n;exact⟨.ret,i,rfl,j,⟨ys,z⟩,l,λX f b Q g=>p X f b _ g⟩
   .cases h
  .cases h
theorem QG{P:cD}{T:b_}(d:b_.ok P T){k0 live:Nat}{c:Code}{body:bp->Option a8}(e:∀a u,a.bt=[]->body a=some u->oH P k0 c a u):
 ∀(n:Nat){S:bp}{u:a8},S.bt=[]->C5 T k0 live body n S=some u->Hk P k0 (λX Q=>rj X c n Q) S u
 |0,_,_,_,h=>by cases h
 |n+1,S,u,f,h=>by
  simp only[C5]at h;split at h
  .rename_i t g;split at h
   .exact afq d (A:=λX Q=>rj X c n Q) (λX Q st st' i h=>abG i h) (e S t f g) (λa u b j=>QG d e n b j) h
   .cases h
  .cases h
theorem asK{P T}(B:b_.ok P T){k0 c S S' t u as n}(J:S.bt=[])(C:oH P k0 c S' t)
 (K:jmp T k0 S.nv S' 0 .normal S=some (.br (.jump n as))) (M:t.bind (jmp T k0 S.nv S') 0=some u):oH P k0 (.loop c) S (.loop as u):=by
 intro ρ x ρ' E O;obtain⟨N,F⟩:=sY O;obtain⟨R,U,i1,i2,r,i4⟩:=kB (ys:=[]) B E (by simp_all) J K rfl;injection i1 with i1 w
 cases i1;rw[<-w]at r i4;simp only[ju]at r i4;have step:∀(n:Nat)(a:List L),S'.nv=(ρ++a).length->fP (λa=>jk (u.a6 (ρ++a))) (n+1) a=some (x,ρ')->
  ∃e b ys,b.nv=(ρ++a++ys).length/\b.bt=[]/\
   (∀X:Fx,X.P=P->X.k0=k0->∀Q:Exit->bz->Prop,Q e.to (b.a6 (ρ++a++ys))->Aw X c Q (S'.a6 (ρ++a)))/\
   ((e=.normal/\∃i,S'.nv=(ρ++i).length/\fP (λa=>jk (u.a6 (ρ++a))) n i=some (x,ρ')/\∀X:Fx,X.P=P->X.k0=k0->Le X (b.a6 (ρ++a++ys)) (S'.a6 (ρ++i)))\/
    (e≠ .normal/\x=.st e b/\ρ'=ρ++a++ys)):=by
  intro n a l f;simp only[fP]at f
  cases g:u.a6 (ρ++a)with
  |none=>rw[g]at f;cases f
  |some o=>
   obtain⟨e,b,j,v,y,q,m⟩:=qX (λx j V=>(C (ρ++a) x j l.symm V).bare) (λe b j ht d u1 W=>DE W) M g;obtain⟨e',Y,g1,g2,⟨ys,g3⟩,G,g5⟩:=C (ρ++a) _ _ l.symm y;cases g1;subst g3;refine⟨e,b,ys,g2,G,g5,?_⟩
   cases e with
   |normal=>
    rw[eU]at m;obtain⟨as,aa,j1,j2,j3,j4⟩:=kB B E (by simp_all) G q m;subst j1;rw[g]at f;exact .inl ⟨rfl,_,j3,f,by simp_all⟩
   |exit id=>cases q;cases m;rw[g]at f;cases f;simp_all
   |ret=>cases q;cases m;rw[g]at f;cases f;simp_all
 have fin:∀(n:Nat)(a:List L),S'.nv=(ρ++a).length->fP (λa=>jk (u.a6 (ρ++a))) n a=some (x,ρ')->
  ∃e b,x=.st e b/\b.nv=ρ'.length/\(∃ys,ρ'=ρ++ys)/\b.bt=[]/\e≠ .normal:=by
  intro n
  induction n with
  |zero=>intro a _ h;cases h
  |succ n ih=>
   intro a l f;obtain⟨e,b,ys,y,q,_,z⟩:=step n a l f;rcases z with⟨_,i,k1,k2,_⟩| ⟨k1,k2,s⟩
   .exact ih i k1 k2
   grind
 obtain⟨e,b,H,f2,f3,f4,f5⟩:=fin N _ r F;refine⟨e,b,H,f2,f3,f4,λX A k Q I=>?_⟩;refine atY (α:=Nat×List L) (λp st=>st=S'.a6 (ρ++p.2)/\S'.nv=(ρ++p.2).length/\fP (λa=>jk (u.a6 (ρ++a))) p.1 p.2=some (x,ρ')) (λp=>p.1)
  (x0:=(N,as.map (At.ev ρ))) ⟨_,i4 X A k,rfl,r,F⟩ ?_
 rintro⟨n,a⟩ st ⟨rfl,l,f⟩
 cases n with
 |zero=>cases f
 |succ n=>
  obtain⟨e1,S2,ys,y,q,m,z⟩:=step n a l f;refine m X A k _ ?_;rcases z with⟨rfl,i,k1,k2,s⟩| ⟨k1,k2,s⟩
  .exact⟨(n,i),_,s X A k,⟨rfl,k1,k2⟩,xE n⟩
  .subst H;cases k2;subst s
   cases e with
   |normal=>simp_all
   |exit id=>exact I
   |ret=>exact I
theorem WB{P:cD}{T:b_}(d:b_.ok P T){k0 live:Nat}{c:Code}{body:bp->Option a8}{S:bp}(e:S.bt=[])(f:∀a u,a.bt=[]->body a=some u->oH P k0 c a u):
 ∀{fuel:Nat}{g:List bp}{u:a8},Fj T k0 live body S fuel g=some u->oH P k0 (.loop c) S u
 |0,_,_,h=>by cases h
 |fuel + 1,g,u,h=>by
  simp only[Fj]at h;split at h
  .rename_i S' i;split at h
   .rename_i t j;split at h
    .rename_i n as w k l;split at h
     .rename_i b;cases h;exact asK d e (f S' t (by simpa using b) j) k l
     .cases h
    .exact WB d e f h
   .cases h
  .cases h
theorem lQ{P:cD}{T:b_}{C:dt}{k0:Nat}(m:b_.ok P T)(A:dt.ok P C)(B:P.follows .mixedOrders=true):∀(c:Code){n:Nat}{ex:List (Nat×Nat)}{r:Nat}{S:bp}{u:a8},
 S.bt=[]->exec T C k0 c n ex r S=some u->oH P k0 c S u
 |.skip,n,ex,r,S,u,k,h=>by
  cases h;intro ρ x ρ' j i;cases i;exact⟨.normal,S,rfl,j.symm,⟨[],by simp⟩,k,λX _ _ Q g=>Dc g⟩
 |.exit id,n,ex,r,S,u,k,h=>by
  cases h;intro ρ x ρ' j i;cases i;exact⟨.exit id,S,rfl,j.symm,⟨[],by simp⟩,k,λX _ _ Q g=>anv g⟩
 |.ret,n,ex,r,S,u,k,h=>by
  cases h;intro ρ x ρ' j i;cases i;exact⟨.ret,S,rfl,j.symm,⟨[],by simp⟩,k,λX _ _ Q g=>tB g⟩
 |.region id ops draw,n,ex,r,S,u,k,h=>by
  intro ρ x ρ' j i;exact aiQ m A B h j i
 |.seq a b,n,ex,r,S,u,k,h=>by
  simp only[exec]at h;split at h
  .rename_i t G;exact ajz m (lQ m A B a k G) (λO u E J=>lQ m A B b E J) h
  .cases h
 |.block id c,n,ex,r,S,u,k,h=>by
  simp only[exec]at h;split at h
  .rename_i t G;intro ρ x ρ' j i;have F:=lQ m A B c k G;obtain⟨e,I,H,v,K,M,R⟩:=qX (λx H U=>(F ρ x H j U).bare) (λe I H G d V W=>by cases W;rfl) h i;obtain⟨e',Y,o,p,q,s,w⟩:=F ρ _ _ j K;cases o;cases M;cases R;refine⟨_,I,rfl,p,q,s,λX z f Q g=>aau (w X z f _ ?_)⟩
   cases e with
   |normal=>exact g
   |ret=>exact g
   |exit N=>
    simp only[Ex.to,Au];by_cases hid:N=id
    .subst hid;rw[bF rfl];rw[bF rfl]at g;exact g
    .rw[bO hid];rw[bO (by simp_all)]at g;exact g
  .cases h
 |.scope c,n,ex,r,S,u,k,h=>by
  intro ρ x ρ' j i;obtain⟨e,I,o,p,q,s,w⟩:=lQ m A B c k h ρ x ρ' j i;refine⟨e,I,o,p,q,s,λX z f Q g=>arP (w X z f _ ?_)⟩;cases e<;>exact g
 |.label l,n,ex,r,S,u,k,h=>by
  cases h;intro ρ x ρ' j i;cases i;exact⟨.normal,S,rfl,j.symm,⟨[],by simp⟩,k,λX _ _ Q g=>apG g⟩
 |.loop c,n,ex,r,S,u,k,h=>by
  simp only[exec]at h;split at h
  .rename_i v hv;cases h;exact WB m k (λO u E J=>lQ m A B c E J) hv
  .intro ρ x ρ' j i;obtain⟨e,I,o,p,q,s,w⟩:=QG m (λO u E J=>lQ m A B c E J) 600 k h ρ x ρ' j i;exact⟨e,I,o,p,q,s,λX z f Q g=>Wt (w X z f Q g)⟩
 |.cond c a b,n,ex,r,S,u,k,h=>by
  simp only[exec]at h;have key:∀(y:At),S.arg c=some (.v (.c (.p .bool y)))->∀ρ,(S.a6 ρ).arg c=some (.sc (.bool (y.ev ρ).ck)):=λy hy ρ=>bp.cL ρ hy
  split at h
  .rename_i F;intro ρ x ρ' j i;obtain⟨e,S',o,p,q,s,w⟩:=lQ m A B a k h ρ x ρ' j i;exact⟨e,S',o,p,q,s,λX z f Q g=>tp (t:=true) (key _ F ρ) (λ_=>w X z f Q g) (λh=>by cases h)⟩
  .rename_i F;intro ρ x ρ' j i;obtain⟨e,S',o,p,q,s,w⟩:=lQ m A B b k h ρ x ρ' j i;exact⟨e,S',o,p,q,s,λX z f Q g=>tp (t:=false) (key _ F ρ) (λh=>by cases h) (λ_=>w X z f Q g)⟩
  .rename_i y _ _ F;split at h
   .rename_i V u2 K M;cases h;intro ρ x ρ' j i;simp only[a8.a6]at i;split at i
    .rename_i G;obtain⟨e,S',o,p,q,s,w⟩:=lQ m A B a k K ρ x ρ' j i;exact⟨e,S',o,p,q,s,λX z f Q g=>tp (key _ F ρ) (λ_=>w X z f Q g) (λh=>by rw[G]at h;cases h)⟩
    .rename_i G;obtain⟨e,S',o,p,q,s,w⟩:=lQ m A B b k M ρ x ρ' j i;exact⟨e,S',o,p,q,s,λX z f Q g=>tp (key _ F ρ) (λh=>absurd h G) (λ_=>w X z f Q g)⟩
   .cases h
  .cases h
 |.rangeFunc ..,_,_,_,_,_,_,h=>by cases h
 |.goto ..,_,_,_,_,_,_,h=>by cases h
 |.refuse ..,_,_,_,_,_,_,h=>by cases h
end
end
end Go.Proofs.YtndegphojkiblaaGreatDoor
