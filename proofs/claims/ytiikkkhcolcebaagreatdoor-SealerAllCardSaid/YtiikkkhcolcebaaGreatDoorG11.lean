/- A part. -/
import Derived.Test.YtiikkkhcolcebaaGreatDoorG10
set_option linter.all false
set_option maxHeartbeats 4000000
set_option maxRecDepth 100000
namespace Go.Proofs.YtiikkkhcolcebaaGreatDoor
noncomputable section
section
open Go.RowKit
open Classical
def bq.fG(S:bq)(x:cF):Option bK:=match S.arg x with|some (.v x)=>some x|_=>none
theorem bq.CD(ρ){S:bq}{x y}(h:S.fG x=some y):(S.a_ ρ).fG x=some (y.a_ ρ):=by
 unfold bq.fG at h;split at h
 .rename_i a;cases h;have:=bq.cG ρ a;simp only[bx.fG,this];rfl
 .cases h
def bq.lits(S:bq):List cF->Option (List (List (Kd×At))×List Nat)
 |[]=>some ([],[])
 |x::xs=>match S.fG x with
  |some y=>match S.sinks y.cells,S.lits xs with
   |some (r,a),some (rs,d)=>some (r::rs,a++d)
   |_,_=>none
  |none=>none
theorem bq.SQ{S:bq}{ρ:List L}:∀{xs:List cF}{rows:List (List (Kd×At))}{a:List Nat},S.lits xs=some (rows,a)->(S.a_ ρ).lits xs=some (rows.map (db ρ),a)
 |[],_,_,h=>by cases h;rfl
 |x::xs,rows,a,h=>by
  simp only[bq.lits]at h;split at h
  .rename_i y d;split at h
   .rename_i r k rs t m q;cases h;simp only[bx.lits,bq.CD ρ d,bK.zD,bq.MP m,bq.SQ q];rfl
   .cases h
  .cases h
def HQ(T:bV)(S:bq)(d:Nat)(t:cd)(len:Nat)(parts:List (Nat×cF)):Option cv:=
 match(List.lookup t T).bind Ty.elem with
 |some e=>match(List.lookup e T).bind Ty.app,S.lits (parts.map (·.2))with
  |some (n,_),some (rows,a)=>if parts.map (·.1)=List.range len/\(rows.all (·.length==n))=true/\len*n<=16777216 then some ⟨[.lit rows],.c1 (.own d),⟨[(d,.row e (.v S.nv))],a⟩,[]⟩else none
  |_,_=>none
 |none=>none
def uB:List Kd->Option (List (Kd×At))
 |[]=>some []
 |k::ks=>match k.zero,uB ks with
  |.p k a,some ps=>some ((k,a)::ps)
  |.nil,some ps=>some ((.sl,.r0)::ps)
  |_,_=>none
theorem uc{ρ:List L}:∀{ks:List Kd}{ps:List (Kd×At)},uB ks=some ps->ml ((ks.map Kd.zero).map (SC.a_ ρ))=some (db ρ ps)
 |[],_,h=>by cases h;rfl
 |k::ks,ps,h=>by
  simp only[uB]at h;split at h
  .rename_i e a b c d;cases h;have:=uc (ρ:=ρ) d;unfold ml at this⊢;simp only[dk,rk,c,SC.a_,C.pv,this];rfl
  .rename_i b c d;cases h;have:=uc (ρ:=ρ) d;unfold ml at this⊢;simp only[dk,rk,c,SC.a_,C.pv,this];rfl
  .cases h
def At.same:At->At->Bool
 |.v x,.v y=>x==y
 |.i x,.i y=>x==y
 |.b x,.b y=>x==y
 |.s x,.s y=>decide (x.data.toList=y.data.toList)
 |.r0,.r0=>true
 |_,_=>false
theorem At.mE{a b:At}(h:a.same b=true):a=b:=by
 unfold At.same at h;split at h
 .simp at h;rw[h]
 .simp at h;rw[h]
 .simp at h;rw[h]
 .rename_i x y;cases x;simp_all
 .rfl
 .cases h
def Np(T:bV)(S:bq)(d:Nat)(t:cd)(l c:cF):Option cv:=
 match(List.lookup t T).bind Ty.elem,S.arg l,S.arg c with
 |some e,some (.v (.c (.p (.int _) a))),some (.v (.c (.p (.int _) a')))=>match List.lookup e T with
  |some f=>match f.app,f.ob.bind uB with
   |some (_,b),some ps=>if a.same a' then some ⟨[.jJ a ps b],.c1 (.own d),⟨[(d,.row e (.v S.nv))],[]⟩,[]⟩else none
   |_,_=>none
  |none=>none
 |_,_,_=>none
def Mi(T:bV)(S:bq)(t:cd)(x y:cF):Option cv:=
 match(List.lookup t T).bind Ty.elem,S.arg x,S.arg y with
 |some e,some (.v (.c d)),some (.v (.c f))=>match List.lookup e T,S.view S.nv f with
  |some c,some (nds,a)=>match d with
   |.own n=>match List.lookup n S.heap with
    |some (.row b x)=>if b=e then some ⟨nds++[.FM x a c.size],.c1 (.p (.int .i64) (.v (S.nv+gq nds+1))),⟨[(n,.row e (.v (S.nv+gq nds)))],[]⟩,[]⟩else none
    |_=>none
   |.sub n lo ln=>match List.lookup n S.heap with
    |some (.row b x)=>if b=e then some ⟨nds++[.ox x lo ln a c.size],.c1 (.p (.int .i64) (.v (S.nv+gq nds+1))),⟨[(n,.row e (.v (S.nv+gq nds)))],[]⟩,[]⟩else none
    |_=>none
   |_=>none
  |_,_=>none
 |_,_,_=>none
def Mq(T:bV)(S:bq)(s d:cd)(x:cF):Option cv:=
 match S.arg x,List.lookup s T,List.lookup d T with
 |some (.v (.c (.p (.int k0) a))),some rs,some rd=>match rs.some,rd.int with
  |true,some k=>match a with
   |.i n=>some (.pure (.c1 (.p (.int k) (.i (k.wrap n)))))
   |a=>if rs.int=some k/\k0=k then some ⟨[.conv k a],.c1 (.p (.int k) (.v S.nv)),dU,[]⟩else some ⟨[.conv k a],.c1 (.p (.int k) (.v S.nv)),dU,[]⟩
  |_,_=>if rs.some=true/\rd.eO=true then some (.pure (.c1 (.p .eO a)))else none
 |some (.v (.c (.p .eO a))),some rs,some rd=>match rs.some,rd.int with
  |true,some .i64=>some ⟨[.call 3004 MR [a] 1 []],.c1 (.p (.int .i64) (.v S.nv)),dU,[]⟩
  |_,_=>none
 |some (.v (.c (.p .str a))),some rs,some rd=>if rs.th&&rd.th then some (.pure (.c1 (.p .str a)))else none
 |some (.v (.c c)),some rs,some rd=>match S.view S.nv c,rs.sl,rd.th with
  |some (nds,a),some e,true=>match(List.lookup e T).bind Ty.int with
   |some .u8=>some ⟨nds++[.str a],.c1 (.p .str (.v (S.nv+gq nds))),dU,[]⟩
   |_=>none
  |_,_,_=>none
 |_,_,_=>none
def foldI(op:BinOp)(k:eX)(a b:At):Option At:=match a,b with
 |.i m,.i n=>match dV op k m n with
  |some (.i z)=>some (.i z)
  |some (.b z)=>some (.b z)
  |_=>none
 |_,_=>none
theorem ami{op k a b z}(h:foldI op k a b=some z)(ρ):dV op k (a.ev ρ).br (b.ev ρ).br=some (z.ev ρ):=by
 unfold foldI at h;split at h
 .split at h
  .rename_i c;cases h;exact c
  .rename_i c;cases h;exact c
  .cases h
 .cases h
def ym:List SC->Option (List (eX×At))
 |[]=>some []
 |.p (.int k) a::cs=>(ym cs).map ((k,a):: ·)
 |_=>none
def DH(m:Nat):List (eX×At)->List (eX×At)->List Nd
 |(k,a)::xs,(_,b)::ys=>.bi .eql k a b:: .bb .and (.v m) (.v (m+1))::DH (m+2) xs ys
 |_,_=>[]
def JA(T:bV)(S:bq)(op:BinOp)(t:cd)(x y:cF):Option cv:=
 match S.arg x,S.arg y with
 |some (.v (.c (.p (.int k) a))),some (.v (.c (.p (.int c) b)))=>if LO op||decide (k=c)then(match foldI op k a b with
  |some z=>some ⟨[],.c1 (.p (if mo op then .bool else .int k) z),dU,[]⟩
  |none=>some ⟨[.bi op k a b],.c1 (.p (if mo op then .bool else .int k) (.v S.nv)),dU,[]⟩)else none
 |some (.v (.c (.p .str a))),some (.v (.c (.p .str b)))=>some ⟨[.bs op a b],.c1 (.p (if mo op then .bool else .str) (.v S.nv)),dU,[]⟩
 |some (.v (.c (.p .bool a))),some (.v (.c (.p .bool b)))=>match List.lookup t T with
  |some r=>if r.c8=true/\op≠ .and then some ⟨[.bb op a b],.c1 (.p .bool (.v S.nv)),dU,[]⟩else none
  |none=>none
 |some (.v (.c (.p .jI a))),some (.v (.c (.p .jI b)))=>if op=.add then some ⟨[.call 3007 Ce [a,b] 1 []],.c1 (.p .jI (.v S.nv)),dU,[]⟩else none
 |some (.v (.agg cs)),some (.v (.agg ds))=>match ym cs,ym ds,List.lookup t T with
  |some ((i,a)::xs),some ((j,b)::ys),some r=>if r.Ws=xs.length+1/\i::xs.map (·.1)=j::ys.map (·.1)then match op with
   |.eql=>some ⟨.bi .eql i a b::DH S.nv xs ys,.c1 (.p .bool (.v (S.nv+2*xs.length))),dU,[]⟩
   |.neq=>some ⟨.bi .eql i a b::(DH S.nv xs ys++[.not (.v (S.nv+2*xs.length))]),.c1 (.p .bool (.v (S.nv+2*xs.length+1))),dU,[]⟩
   |_=>none
   else none
  |_,_,_=>none
 |_,_=>none
def HT(S:bq)(op:UnOp)(x:cF):Option cv:=
 match S.arg x,op with
 |some (.v (.c (.p .bool a))),.not=>some ⟨[.not a],.c1 (.p .bool (.v S.nv)),dU,[]⟩
 |some (.v (.c (.p (.int k) a))),.neg=>some ⟨[.un .neg k a],.c1 (.p (.int k) (.v S.nv)),dU,[]⟩
 |some (.v (.c (.p (.int k) a))),.xor=>some ⟨[.un .xor k a],.c1 (.p (.int k) (.v S.nv)),dU,[]⟩
 |_,_=>none
def Cv(place:Nat->Option (Nat×Nat))(cells:List SC):List (Nat×List SC)->Option (List SC)
 |[]=>some cells
 |(i,x)::rest=>match place i with
  |none=>none
  |some (off,size)=>if x.length=size/\off+x.length<=cells.length then Cv place (cells.take off++x++cells.drop (off+x.length)) rest else none
def bq.parts(S:bq):List (Nat×cF)->Option (List (Nat×List SC))
 |[]=>some []
 |(i,x)::l=>match S.fG x,S.parts l with
  |some y,some ys=>some ((i,y.cells)::ys)
  |_,_=>none
def Jj(T:bV)(S:bq)(t:cd)(parts:List (Nat×cF)):Option cv:=
 match List.lookup t T with
 |some r=>match r.ob,r.places,S.parts parts with
  |some ks,some ps,some xs=>(Cv (ps[·]?) (ks.map Kd.zero) xs).map λcs=>.pure (.v (.agg cs))
  |_,_,_=>none
 |none=>none
section
variable{P:cC}{T:bV}{S:bq}{ρ:List L}
theorem zU(b:bV.ok P T){t e}(h:(List.lookup t T).bind Ty.elem=some e):fr P t=some e:=by
 simp only[iy]at h;obtain⟨row,c,a⟩:=h;have:=b _ _ c;subst this;exact a
theorem arU(b:bV.ok P T){e x}(h:(List.lookup e T).bind Ty.app=some x):iR P e=some x:=by
 simp only[iy]at h;obtain⟨row,c,a⟩:=h;have:=b _ _ c;subst this;exact a
theorem aff(g:bV.ok P T){d t len parts r}(h:HQ T S d t len parts=some r)(j:Sat ρ S.nv r.nds):(wN P (S.a_ ρ) d t len parts).map bZ.of=some (r.a_ ρ):=by
 unfold HQ at h;split at h
 .rename_i e f;split at h
  .rename_i n b rows p c k;split at h
   .rename_i i;cases h;obtain⟨l,m,o⟩:=j.dW rfl;cases m;simp only[wN,zU g f,arU g c,bq.SQ k];have a:ct n (rows.map (db ρ))=true:=by
     simp only[ct,cz,fE];rintro _ ⟨x,q,rfl⟩;simp_all[db]
    rw[bA ⟨i.1,a,i.2.2⟩];simp only[b_,bZ.of,cv.a_,gL.a_,cU.a_,dk,gJ,SB.a_,o,L.bC];rfl
   .cases h
  .cases h
 .cases h
theorem amk(u:bV.ok P T){d t l c r}(h:Np T S d t l c=some r)(v:Sat ρ S.nv r.nds):(xq P (S.a_ ρ) d t l c).map bZ.of=some (r.a_ ρ):=by
 unfold Np at h;split at h
 .rename_i e k1 a k2 a' o w x;split at h
  .rename_i B y;have:=u _ _ y;subst this;split at h
   .rename_i n b ps j k;have g:iR P e=some (n,b):=j;simp only[iy]at k;obtain⟨ks,p,z⟩:=k;split at h
    .rename_i i;have:=At.mE i;subst this;cases h;obtain⟨C,m,A⟩:=v.dW rfl;simp only[Nd.ev]at m;split at m
     .rename_i f;cases m;have q:(S.a_ ρ).arg l=some (.v (.c (.p (.sc (.int k1 (a.ev ρ).br))))):=bq.cG ρ w;have s:(S.a_ ρ).arg c=some (.v (.c (.p (.sc (.int k2 (a.ev ρ).br))))):=bq.cG ρ x;simp only[xq,zU u o,q,s,g,vq (P:=P) p ρ,uc z];rw[bA ⟨trivial,f.1,f.2.1,f.2.2⟩];simp only[b_,bZ.of,cv.a_,gL.a_,cU.a_,dk,gJ,SB.a_,A,L.bC];rfl
     .cases m
    .cases h
   .cases h
  .cases h
 .cases h
theorem aqi(u:bV.ok P T){t x y r}(h:Mi T S t x y=some r)(w:Sat ρ S.nv r.nds):(ql P (S.a_ ρ) t x y).map bZ.of=some (r.a_ ρ):=by
 unfold Mi at h;split at h
 .rename_i e A B l C D;have m:(S.a_ ρ).arg x=some (.v (.c (A.a_ ρ))):=bq.cG ρ C;have o:(S.a_ ρ).arg y=some (.v (.c (B.a_ ρ))):=bq.cG ρ D;split at h
  .rename_i G nds a E z;have:=u _ _ E;subst this;split at h
   .rename_i n;split at h
    .rename_i F v p;split at h
     .rename_i f;subst f;cases h;obtain⟨g,i⟩:=Sat.app w;obtain⟨ls,d,q⟩:=i.one;simp only[Nd.ev]at d;split at d
      .rename_i s;cases d;have b:=q 0 (by simp[Nd.n]);have c:=q 1 (by simp[Nd.n]);simp only[lh,oZ,gx]at b;simp only[Bi,oZ,gx]at c;have j:(S.a_ ρ).view (.own n)=some (v.ev ρ).bC:=by simp only[bx.view,eK,p,b_,SB.a_]
       have k:(S.a_ ρ).arg x=some (.v (.c (.own n))):=m;simp only[ql,zU u l,k,o,j,qM z g,eK,p,b_,SB.a_];rw[bA ⟨trivial,s⟩];simp only[b_,bZ.of,cv.a_,gL.a_,cU.a_,dk,gJ,SB.a_,b,c,L.bC,SV.a_,bK.a_,SC.a_,Kd.pv,L.br]
      .cases d
     .cases h
    .cases h
   .rename_i n lo ln;split at h
    .rename_i F v p;split at h
     .rename_i f;subst f;cases h;obtain⟨g,i⟩:=Sat.app w;obtain⟨ls,d,q⟩:=i.one;simp only[Nd.ev]at d;split at d
      .rename_i s;cases d;have b:=q 0 (by simp[Nd.n]);have c:=q 1 (by simp[Nd.n]);simp only[lh,oZ,gx]at b;simp only[Bi,oZ,gx]at c;have j:(S.a_ ρ).view (.sub n (lo.ev ρ).br.toNat (ln.ev ρ).br.toNat)=some (((v.ev ρ).bC.drop (lo.ev ρ).br.toNat).take (ln.ev ρ).br.toNat):=by simp only[bx.view,eK,p,b_,SB.a_]
       have k:(S.a_ ρ).arg x=some (.v (.c (.sub n (lo.ev ρ).br.toNat (ln.ev ρ).br.toNat))):=m;simp only[ql,zU u l,k,o,j,qM z g,eK,p,b_,SB.a_];rw[bA ⟨trivial,s.1,s.2⟩];simp only[b_,bZ.of,cv.a_,gL.a_,cU.a_,dk,gJ,SB.a_,b,c,L.bC,SV.a_,bK.a_,SC.a_,Kd.pv,L.br]
      .cases d
     .cases h
    .cases h
   .cases h
  .cases h
 .cases h
theorem yu{t k}(h:EW P t=some k):P.underlying t=some (.int k):=by
 unfold EW at h;split at h
 .cases h;assumption
 .cases h
theorem aaZ(o:bV.ok P T){s d x r}(h:Mq T S s d x=some r)(D:Sat ρ S.nv r.nds):(ku P (S.a_ ρ) s d x).map bZ.pure=some (r.a_ ρ):=by
 unfold Mq at h;split at h
 .rename_i k0 a rs rd u g i;have:=o _ _ g;subst this;have:=o _ _ i;subst this;have j:(S.a_ ρ).arg x=some (.v (.c (.p (.sc (.int k0 (a.ev ρ).br))))):=bq.cG ρ u;split at h
  .rename_i k hsome E;obtain⟨ds,q⟩:=rh.1 (show(P.underlying s).isSome=true from hsome);have A:=yu (P:=P) E;have v:ku P (S.a_ ρ) s d x=some (.sc (.int k (k.wrap (a.ev ρ).br))):=by simp_all[ku]
   rw[v];split at h
   .cases h;rfl
   .have O:r=⟨[.conv k a],.c1 (.p (.int k) (.v S.nv)),dU,[]⟩:=by simp_all
    subst O;obtain⟨l,m,B⟩:=D.dW rfl;cases m;simp only[b_,bZ.pure,cv.a_,SV.a_,bK.a_,SC.a_,Kd.pv,B,L.br];rfl
  .split at h
   .rename_i w;cases h;obtain⟨ds,q⟩:=rh.1 (show(P.underlying s).isSome=true from w.1);have Q:=azL (P:=P) (t:=d) w.2;simp only[ku,j,q,Q,b_];rfl
   .cases h
 .rename_i a rs rd u g i;have:=o _ _ g;subst this;have:=o _ _ i;subst this;have j:(S.a_ ρ).arg x=some (.v (.c (.p (.sc (.float .f64 (fK (a.ev ρ).br)))))):=bq.cG ρ u;split at h
  .rename_i hsome E;cases h;obtain⟨ds,q⟩:=rh.1 (show(P.underlying s).isSome=true from hsome);have A:=yu (P:=P) (t:=d) E;obtain⟨l,m,B⟩:=D.dW rfl;have m:=zn m;simp only[dk,gJ,MR]at m;split at m
   .rename_i R;cases m;simp only[ku,j,q,A,abd R,b_];simp only[bZ.pure,cv.a_,SV.a_,bK.a_,SC.a_,Kd.pv,B,L.br];rfl
   .cases m
  .cases h
 .rename_i a rs rd u g i;have:=o _ _ g;subst this;have:=o _ _ i;subst this;have j:(S.a_ ρ).arg x=some (.v (.c (.p (.sc (.string (a.ev ρ).fU))))):=bq.cG ρ u;split at h
  .rename_i w;cases h;simp only[cu]at w;simp only[ku,j,wQ (P:=P) w.1,wQ (P:=P) w.2];rfl
  .cases h
 .rename_i c rs rd K M N u g i;have:=o _ _ g;subst this;have:=o _ _ i;subst this;split at h
  .rename_i nds a e U F W;split at h
   .rename_i C;cases h;simp only[iy]at C;obtain⟨row,X,C⟩:=C;have:=o _ _ X;subst this;obtain⟨G,H⟩:=Sat.app D;obtain⟨l,m,B⟩:=H.dW rfl;simp only[Nd.ev,bY]at m;obtain⟨bs,I,m⟩:=m;cases m;have j:(S.a_ ρ).arg x=some (.v (.c (c.a_ ρ))):=bq.cG ρ u;have J:=qM U G;have v:ku P (S.a_ ρ) s d x=some (.sc (.string (strOfNums bs))):=by
     unfold ku;rw[j];split
     .rename_i k n f
      cases c with
      |p z y=>
       cases z with
       |int z=>simp_all
       |_=>simp[SC.a_,Kd.pv]at f
      |_=>simp[SC.a_]at f
     .rename_i k0 b f
      cases c with
      |p z y=>
       cases z with
       |eO=>simp_all
       |_=>simp[SC.a_,Kd.pv]at f
      |_=>simp[SC.a_]at f
     .rename_i b f
      cases c with
      |p z y=>
       cases z with
       |str=>simp_all
       |_=>simp[SC.a_,Kd.pv]at f
      |_=>simp[SC.a_]at f
     .rename_i Y _ _ _ f;simp only[jq,V.v.injEq,V1.c.injEq]at f;subst f;rw[J,xG (P:=P) F,wQ (P:=P) W];simp only[yu (P:=P) C,I]
     simp_all
    rw[v];simp only[b_,bZ.pure,cv.a_,SV.a_,bK.a_,SC.a_,Kd.pv,B,L.fU];rfl
   .cases h
  .cases h
 .cases h
theorem W0{op k e a b l}(f)(c:(LO op||decide (k=e))=true)(h:dV op k a b=some l):jd f op (.int k a) (.int e b)=some (if mo op then .bool l.ez else .int k l.br):=by
 cases op<;>simp[LO]at c<;>simp only[dV]at h<;>first
  |(subst c;cases h;simp[jd,mo,bitsOf,L.br,L.ez];done)
  |(subst c;split at h; (rename_i d;cases h;simp only[jd,mo,true_and];rw[jK d];rfl);cases h)
  |(split at h; (rename_i d;cases h;simp only[jd,mo];rw[jK d];rfl);cases h)
theorem azm{op a b l}(c)(h:wb op a b=some l):jd c op (.string a) (.string b)=some (if mo op then .bool l.ez else .string l.fU):=by
 cases op<;>simp only[wb]at h<;>first
  |(cases h;rfl)
  |(split at h; (rename_i d;cases h;simp only[jd,mo];rw[jK d];rfl);cases h)
  |cases h
theorem awa{op a b l}(h:mY op a b=some l)(c:op≠ .and):jd true op (.bool a) (.bool b)=some (.bool l.ez):=by
 cases op<;>simp only[mY]at h<;>first|exact absurd rfl c| (cases h;rfl)|cases h
theorem zO{ρ j x}(a:∀i,i<1->ρ[j+i]?=[x][i]?):(At.v j).ev ρ=x:=by
 simp_all [At.ev,gx]
theorem JE{ρ r}:∀{xs ys}{m}{t},xs.length=ys.length->(At.v m).ev ρ=.b t->Sat ρ (m+1) (DH m xs ys++r)->
 (At.v (m+2*xs.length)).ev ρ=.b (o8 t (xs.map λx=>(x.1,(x.2.ev ρ).br)) (ys.map λx=>(x.1,(x.2.ev ρ).br)))/\Sat ρ (m+2*xs.length+1) r
 |[],[],m,t,_,c,d=>⟨c,d⟩
 |(k,a)::xs,(j,b)::ys,m,t,i,c,d=>by
  obtain⟨⟨s,l,n⟩,⟨u,o,p⟩,q⟩:=d;cases l;have e0:=zO n;cases o;have f:=zO p;rw[c,e0]at f;obtain⟨g,h⟩:=JE (m:=m+2) (by simpa using i) f q;have e:m+2+2*xs.length=m+2*((k,a)::xs).length:=by simp;omega
  rw[e]at g h;exact⟨g,h⟩
theorem Kz{ρ:List L}:∀{cs:List SC}{xs:List (eX×At)},ym cs=some xs->tC (cs.map (SC.a_ ρ))=some (xs.map λx=>(x.1,(x.2.ev ρ).br))
 |[],xs,h=>by cases h;rfl
 |c::cs,xs,h=>by
  unfold ym at h;split at h
  .cases ‹_::_=[]›
  .rename_i k a b d;cases d;simp only[bY]at h;obtain⟨ys,e,rfl⟩:=h;show(tC (List.map (SC.a_ ρ) cs)).map _=_;rw[Kz e];rfl
  .cases h
theorem apU(G:bV.ok P T){op t x y K r Sp d}(h:JA T S op t x y=some r)(m:Sat ρ S.nv r.nds):cq P Sp (S.a_ ρ) d (.binOp op t x y K)=some (r.a_ ρ):=by
 unfold JA at h;split at h
 .rename_i k a M b n o;split at h
  .rename_i u;have c:(S.a_ ρ).arg x=some (.v (.c (.p (.sc (.int k (a.ev ρ).br))))):=bq.cG ρ n;have f:(S.a_ ρ).arg y=some (.v (.c (.p (.sc (.int M (b.ev ρ).br))))):=bq.cG ρ o;split at h
   .rename_i z N;cases h;simp only[cq,c,f,W0 (qo P t) u (ami N ρ),b_];cases mo op<;>rfl
   .cases h;obtain⟨l,g,p⟩:=m.dW rfl;simp only[Nd.ev,bY]at g;obtain⟨H,g,v⟩:=g;cases v;simp only[cq,c,f,W0 (qo P t) u g,b_];simp only[bZ.pure,cv.a_,SV.a_,bK.a_,SC.a_,p];cases mo op<;>rfl
  .cases h
 .rename_i a b n o;cases h;obtain⟨l,g,p⟩:=m.dW rfl;simp only[Nd.ev,bY]at g;obtain⟨H,g,v⟩:=g;cases v;have c:(S.a_ ρ).arg x=some (.v (.c (.p (.sc (.string (a.ev ρ).fU))))):=bq.cG ρ n;have f:(S.a_ ρ).arg y=some (.v (.c (.p (.sc (.string (b.ev ρ).fU))))):=bq.cG ρ o;simp only[cq,c,f,azm (qo P t) g,b_];simp only[bZ.pure,cv.a_,SV.a_,bK.a_,SC.a_,p];cases mo op<;>rfl
 .rename_i a b n o;split at h
  .rename_i row w;have:=G _ _ w;subst this;split at h
   .rename_i s;obtain⟨s,A⟩:=s;have B:qo P t=true:=s;cases h;obtain⟨l,g,p⟩:=m.dW rfl;simp only[Nd.ev,bY]at g;obtain⟨H,g,v⟩:=g;cases v;have c:(S.a_ ρ).arg x=some (.v (.c (.p (.sc (.bool (a.ev ρ).ez))))):=bq.cG ρ n;have f:(S.a_ ρ).arg y=some (.v (.c (.p (.sc (.bool (b.ev ρ).ez))))):=bq.cG ρ o;simp only[cq,c,f,B,awa g A,b_];simp only[bZ.pure,cv.a_,SV.a_,bK.a_,SC.a_,p];rfl
   .cases h
  .cases h
 .rename_i a b n o;split at h
  .rename_i O;subst O;cases h;obtain⟨l,g,p⟩:=m.dW rfl;have g:=zn g;have c:(S.a_ ρ).arg x=some (.v (.c (.p (.sc (.complex .f64 (fK (a.ev ρ).fS.1) (fK (a.ev ρ).fS.2)))))):=bq.cG ρ n;have f:(S.a_ ρ).arg y=some (.v (.c (.p (.sc (.complex .f64 (fK (b.ev ρ).fS.1) (fK (b.ev ρ).fS.2)))))):=bq.cG ρ o;simp only[cq,c,f,agG g,b_];simp only[bZ.pure,cv.a_,SV.a_,bK.a_,SC.a_,Kd.pv,p];rfl
  .cases h
 .rename_i cs ds n o;split at h
  .rename_i i a xs j b ys row C D w;have:=G _ _ w;subst this;split at h
   .rename_i s;obtain⟨s,u⟩:=s;have I:xs.length=ys.length:=by have:=cO List.length u;simpa using this
    have c:(S.a_ ρ).arg x=some (.v (.agg (cs.map (SC.a_ ρ)))):=bq.cG ρ n;have f:(S.a_ ρ).arg y=some (.v (.agg (ds.map (SC.a_ ρ)))):=bq.cG ρ o
    have q:Cx P op t (cs.map (SC.a_ ρ)) (ds.map (SC.a_ ρ))=match op with
     |.eql=>some (o8 ((a.ev ρ).br==(b.ev ρ).br) (xs.map λx=>(x.1,(x.2.ev ρ).br)) (ys.map λx=>(x.1,(x.2.ev ρ).br)))
     |.neq=>some (!o8 ((a.ev ρ).br==(b.ev ρ).br) (xs.map λx=>(x.1,(x.2.ev ρ).br)) (ys.map λx=>(x.1,(x.2.ev ρ).br)))
     |_=>none:=by
     unfold Cx;rw[Kz C,Kz D];simp only[dk,bD,gp];rw[bA ⟨s,u⟩];cases op<;>rfl
    split at h
    .cases h;obtain⟨⟨Q,E,F⟩,m⟩:=m;cases E;obtain⟨e,_⟩:=JE (r:=[]) I (zO F) (by rw[fW];exact m);simp only[cq,c,f,q,b_,bZ.pure,cv.a_,SV.a_,bK.a_,SC.a_,e,Kd.pv];rfl
    .cases h;obtain⟨⟨Q,E,F⟩,m⟩:=m;cases E;obtain⟨e,⟨l,g,p⟩,_⟩:=JE I (zO F) m;cases g;have J:=zO p;rw[e]at J;simp only[cq,c,f,q,b_,bZ.pure,cv.a_,SV.a_,bK.a_,SC.a_,J,Kd.pv];rfl
    .cases h
   .cases h
  .cases h
 .cases h
theorem akT{op t x r Sp d}(h:HT S op x=some r)(g:Sat ρ S.nv r.nds):cq P Sp (S.a_ ρ) d (.unOp op t x)=some (r.a_ ρ):=by
 unfold HT at h;split at h
 .rename_i a c;cases h;obtain⟨l,e,f⟩:=g.dW rfl;cases e;have b:(S.a_ ρ).arg x=some (.v (.c (.p (.sc (.bool (a.ev ρ).ez))))):=bq.cG ρ c;simp only[cq,b,xv,b_,bZ.pure,cv.a_,SV.a_,bK.a_,SC.a_,Kd.pv,f];rfl
 .rename_i k a c;cases h;obtain⟨l,e,f⟩:=g.dW rfl;cases e;have b:(S.a_ ρ).arg x=some (.v (.c (.p (.sc (.int k (a.ev ρ).br))))):=bq.cG ρ c;simp only[cq,b,xv,b_,bZ.pure,cv.a_,SV.a_,bK.a_,SC.a_,Kd.pv,f];rfl
 .rename_i k a c;cases h;obtain⟨l,e,f⟩:=g.dW rfl;cases e;have b:(S.a_ ρ).arg x=some (.v (.c (.p (.sc (.int k (a.ev ρ).br))))):=bq.cG ρ c;simp only[cq,b,xv,b_,bZ.pure,cv.a_,SV.a_,bK.a_,SC.a_,Kd.pv,f,bitsOf];rfl
 .cases h
theorem Qs(place:Nat->Option (Nat×Nat)):∀{xs:List (Nat×List SC)}{cells a:List SC},Cv place cells xs=some a->ui place (cells.map (SC.a_ ρ)) (xs.map λx=>(x.1,x.2.map (SC.a_ ρ)))=some (a.map (SC.a_ ρ))
 |[],_,_,h=>by cases h;rfl
 |(i,x)::rest,cells,a,h=>by
  simp only[Cv]at h;split at h
  .cases h
  .rename_i off size hp;split at h
   .rename_i b;simp only[dk,ui,hp];rw[bA (by simpa using b)];have:=Qs place h;simp_all
   .cases h
theorem UZ:∀{l:List (Nat×cF)}{xs:List (Nat×List SC)},S.parts l=some xs->l.mapM (λx=>((S.a_ ρ).fG x.2).map λy=>(x.1,y.cells))=some (xs.map λx=>(x.1,x.2.map (SC.a_ ρ)))
 |[],_,h=>by cases h;rfl
 |(i,x)::l,xs,h=>by
  simp only[bq.parts]at h;split at h
  .rename_i y ys a b;cases h;simp only[rk,bq.CD ρ a,UZ b,b_,bK.zD];rfl
  .cases h
theorem aro(f:bV.ok P T){t parts r}(h:Jj T S t parts.toList=some r):(w3 P (S.a_ ρ) t parts).map bZ.pure=some (r.a_ ρ):=by
 unfold Jj at h;split at h
 .rename_i row g;have:=f _ _ g;subst this;split at h
  .rename_i ks ps xs b c d;simp only[bY]at h;obtain⟨cs,e,rfl⟩:=h;have a:Fm P t=some ps:=c;simp only[w3,vq (P:=P) b ρ,a,UZ d,Qs (ρ:=ρ) (ps[·]?) e];rfl
  .cases h
 .cases h
end
structure bw where
 f:FuncId
 params:List bK
 H:List SB
 gW:Nat
 jz:Nat
 res:SV
 out:cU
 F:List L->Option (List L)
 tag:Nat:=0
def bw.ok(P:cC)(s:bw):Prop:=∀ls o,ls.length=s.gW->s.F ls=some o->o.length=s.jz->
 eC P s.f (s.params.map (bK.a_ ls)) (s.H.map (SB.a_ ls)) (s.res.a_ (ls++o)) (s.out.a_ (ls++o))
def At.sub(σ:List At):At->At
 |.v n=>(σ[n]?).getD (.b false)
 |x=>x
theorem At.xl{σ ρ}(x:At):(x.sub σ).ev ρ=x.ev (σ.map (At.ev ρ)):=by
 cases x with
 |v n=>
  simp only[At.sub,At.ev,cX]
  cases σ[n]? with
  |none=>rfl
  |some y=>rfl
 |_=>rfl
def SC.put(σ:List At)(ρ:Nat->Nat):SC->SC
 |.p k x=>.p k (x.sub σ)
 |.nil=>.nil
 |.own n=>.own (ρ n)
 |.sub n lo ln=>.sub (ρ n) (lo.sub σ) (ln.sub σ)
 |.ptr n off=>.ptr (ρ n) off
 |.ia n off c m i=>.ia (ρ n) off c m (i.sub σ)
 |.dH n i j=>.dH (ρ n) (i.sub σ) j
 |.ref x j=>.ref (x.sub σ) j
 |.fn f ee=>.fn f (ee.map ρ)
 |.mp n=>.mp (ρ n)
 |.dead=>.dead
def bK.fk(f:SC->SC):bK->bK
 |.c y=>.c (f y)
 |.agg ys=>.agg (ys.map f)
def SV.fk(f:SC->SC):SV->SV
 |.v x=>.v (x.fk f)
 |.bL xs=>.bL (xs.map (bK.fk f))
def SB.fk(f:SC->SC)(g:At->At):SB->SB
 |.box cs=>.box (cs.map f)
 |.row e x=>.row e (g x)
 |.map x=>.map (g x)
theorem SC.LH{σ ρ a}(c:SC):(c.put σ a).a_ ρ=(c.a_ (σ.map (At.ev ρ))).dJ a:=by
 cases c<;>simp only[SC.put,SC.a_,C.dJ,At.xl]
theorem bK.xc{σ ρ a}(x:bK):(x.fk (SC.put σ a)).a_ ρ=(x.a_ (σ.map (At.ev ρ))).on (C.dJ a):=by
 cases x with
 |c c=>simp only[bK.fk,bK.a_,V1.on,SC.LH]
 |agg cs=>simp only[bK.fk,bK.a_,V1.on,gp];congr 1;apply gz;intro c _;exact SC.LH c
theorem SV.xc{σ ρ a}(x:SV):(x.fk (SC.put σ a)).a_ ρ=(x.a_ (σ.map (At.ev ρ))).on (C.dJ a):=by
 cases x with
 |v x=>simp only[SV.fk,SV.a_,V.on,bK.xc]
 |bL xs=>simp only[SV.fk,SV.a_,V.on,gp];congr 1;apply gz;intro c _;exact bK.xc c
theorem SB.xc{σ ρ a}(x:SB):(x.fk (SC.put σ a) (At.sub σ)).a_ ρ=(x.a_ (σ.map (At.ev ρ))).on (C.dJ a):=by
 cases x with
 |box cs=>simp only[SB.fk,SB.a_,eQ.on,gp];congr 1;apply gz;intro c _;exact SC.LH c
 |row e x=>simp only[SB.fk,SB.a_,eQ.on,At.xl]
 |map x=>simp only[SB.fk,SB.a_,eQ.on,At.xl]
def SC.bare:SC->Bool
 |.p .sl _=>false
 |.p .gr _=>false
 |.ref _ _=>false
 |_=>true
def bK.bare:bK->Bool
 |.c x=>x.bare
 |.agg xs=>xs.all SC.bare
def SV.bare:SV->Bool
 |.v x=>x.bare
 |.bL xs=>xs.all bK.bare
def SB.bare(T:bV):SB->Bool
 |.box cs=>cs.all SC.bare
 |.row _ _=>false
 |.map _=>false
theorem SC.yJ{ρ}{c:SC}(h:c.bare=true):(c.a_ ρ).bare=true:=by
 cases c with
 |p k x=>cases k<;>first|rfl|cases h
 |ref=>cases h
 |_=>rfl
structure Acc where
 σ:List (Option At)
 ι:List (Option Nat)
 dK:List Nat
def Acc.atom(a:Acc)(i:Nat)(x:At):Acc:={a with σ:=a.σ.set i (some x)}
def Acc.name(a:Acc)(m n:Nat):Acc:={a with ι:=a.ι.set m (some n)}
def Un(S:bq)(a:Acc):SC->SC->Acc
 |.p _ (.v i),.p _ x=>a.atom i x
 |.p _ (.v i),.nil=>a.atom i .r0
 |.p _ (.v i),.own n=>match List.lookup n S.heap with
  |some (.row _ x)=> {a.atom i x with dK:=if a.dK.contains n then a.dK else n::a.dK}
  |_=>a
 |.own m,.own n=>a.name m n
 |.sub m (.v i) (.v j),.sub n lo ln=>((a.name m n).atom i lo).atom j ln
 |.ptr m _,.ptr n _=>a.name m n
 |.fn _ b,.fn _ c=>(b.zip c).foldl (λa x=>a.name x.1 x.2) a
 |.mp m,.mp n=>a.name m n
 |.ref (.v i) _,.ref x _=>a.atom i x
 |_,_=>a
def HH(S:bq):Acc->List SC->List SC->Acc
 |a,d::b,c::cs=>HH S (Un S a d c) b cs
 |a,_,_=>a
def aly(S:bq)(a:Acc):bK->bK->Acc
 |.c d,.c c=>Un S a d c
 |.agg b,.agg cs=>HH S a b cs
 |_,_=>a
def Mc(S:bq):Acc->List bK->List bK->Acc
 |a,d::b,c::cs=>Mc S (aly S a d c) b cs
 |a,_,_=>a
def uz(S:bq):Acc->Nat->List SB->Acc
 |a,_,[]=>a
 |a,m,b::bs=>match a.ι[m]? with
  |some (some n)=>match b,List.lookup n S.heap with
   |.box c,some (.box cs)=>uz S (HH S a c cs) (m+1) bs
   |.row _ (.v i),some (.row _ x)=>uz S (a.atom i x) (m+1) bs
   |.map (.v i),some (.map x)=>uz S (a.atom i x) (m+1) bs
   |_,_=>uz S a (m+1) bs
  |_=>uz S a (m+1) bs
def DP(S:bq)(σ:List At)(ι dK:List Nat):SC->SC->Bool
 |.dead,_=>true
 |.p k x,.p d y=>decide (k=d)&& (x.sub σ).same y
 |.p .sl x,.nil=>(x.sub σ).same .r0
 |.p .sl x,.own n=>match List.lookup n S.heap with
  |some (.row _ y)=>(x.sub σ).same y&&dK.contains n
  |_=>false
 |.nil,.nil=>true
 |.own m,.own n=>ι[m]?==some n
 |.sub m lo ln,.sub n b c=>ι[m]?==some n&& (lo.sub σ).same b&& (ln.sub σ).same c
 |.ptr m off,.ptr n a=>ι[m]?==some n&&off==a
 |.ref x j,.ref y e=>(x.sub σ).same y&&j==e
 |.fn f g,.fn h i=>f==h&&g.map (λm=>ι[m]?)==i.map some
 |.mp m,.mp n=>ι[m]?==some n
 |_,_=>false
def AH(S:bq)(σ:List At)(ι dK:List Nat):List SC->List SC->Bool
 |[],[]=>true
 |c'::a,c::cs=>DP S σ ι dK c' c&&AH S σ ι dK a cs
 |_,_=>false
def O2(S:bq)(σ:List At)(ι dK:List Nat):bK->bK->Bool
 |.c b,.c c=>DP S σ ι dK b c
 |.agg a,.agg cs=>AH S σ ι dK a cs
 |_,_=>false
def zQ(S:bq)(σ:List At)(ι dK:List Nat):List bK->List bK->Bool
 |[],[]=>true
 |c'::a,c::cs=>O2 S σ ι dK c' c&&zQ S σ ι dK a cs
 |_,_=>false
def I2(S:bq)(σ:List At)(ι dK:List Nat):SB->SB->Bool
 |.box a,.box cs=>AH S σ ι dK a cs
 |.row e x,.row b y=>e==b&& (x.sub σ).same y
 |.map x,.map y=>(x.sub σ).same y
 |_,_=>false
def yz(S:bq)(σ:List At)(ι dK:List Nat):List Nat->List SB->Bool
 |[],[]=>true
 |n::a,c::bs=>(match List.lookup n S.heap with|some b=>I2 S σ ι dK c b|none=>false)&&yz S σ ι dK a bs
 |_,_=>false
section
variable{S:bq}{ρ:List L}{σ:List At}{ι dK:List Nat}
theorem D8{m n}(h:(ι[m]?==some n)=true):(ι[m]?).getD 0=n/\m<ι.length:=by
 grind
theorem Yr{i c}(h:DP S σ ι dK i c=true):rO (S.a_ ρ) ι dK (i.a_ (σ.map (At.ev ρ))) (c.a_ ρ):=by
 have same:∀{x y:At},(x.sub σ).same y=true->x.ev (σ.map (At.ev ρ))=y.ev ρ:=λl=>by rw[<-At.xl,At.mE l]
 unfold DP at h;split at h
 .trivial
 .simp only[cu,eD]at h;obtain⟨rfl,a⟩:=h;exact .inl (by grind[SC.a_])
 .exact .inr ⟨[],by simp only[Kd.pv,same h];rfl,rfl,λk j=>by simp[SC.a_,C.names]at j⟩
 .split at h
  .rename_i e y o;simp only[cu,ya,eD]at h;refine .inr ⟨(y.ev ρ).bC,by grind[Kd.pv],by grind[SC.a_,bx.view,eK,SB.a_],λk j=>?_⟩;simp_all[SC.a_,C.names]
  .cases h
 .exact⟨rfl,by simp[SC.a_,C.names]⟩
 .obtain⟨g,a⟩:=D8 h;exact⟨by grind[SC.a_,C.dJ],by grind[SC.a_,C.names]⟩
 .simp only[cu]at h;obtain⟨g,a⟩:=D8 h.1.1;exact⟨by grind[SC.a_,C.dJ],by grind[SC.a_,C.names]⟩
 .simp only[cu,beq_iff_eq]at h;obtain⟨g,a⟩:=D8 (by simpa using h.1);exact⟨by simp_all[SC.a_,C.dJ],by grind[SC.a_,C.names]⟩
 .simp only[cu,beq_iff_eq]at h;exact⟨by grind[SC.a_,C.dJ],by simp[SC.a_,C.names]⟩
 .rename_i f b p d;simp only[cu,beq_iff_eq]at h;obtain⟨rfl,a⟩:=h;have q:d=b.map (λm=>(ι[m]?).getD 0)/\∀m∈b,m<ι.length:=by
   induction b generalizing d with
   |nil=>simp_all
   |cons m b ih=>
    cases d with
    |nil=>simp at a
    |cons n d=>
     grind
  exact⟨by simp_all[SC.a_,C.dJ],by simp_all[SC.a_,C.names]⟩
 .obtain⟨g,a⟩:=D8 h;exact⟨by grind[SC.a_,C.dJ],by grind[SC.a_,C.names]⟩
 .cases h
theorem J9:∀{a cs:List SC},AH S σ ι dK a cs=true->cs.length=a.length/\∀(i:Nat)(c':C),(a.map (SC.a_ (σ.map (At.ev ρ))))[i]?=some c'->∃c,(cs.map (SC.a_ ρ))[i]?=some c/\rO (S.a_ ρ) ι dK c' c
 |[],[],_=>⟨rfl,by simp⟩
 |c'::a,c::cs,h=>by
  simp only[AH,cu]at h;obtain⟨e,f⟩:=J9 h.2;refine⟨by simp[e],λi d b=>?_⟩
  cases i with
  |zero=>simp at b;subst b;exact⟨_,rfl,Yr h.1⟩
  |succ i=>grind
 |[],_::_,h=>by cases h
 |_::_,[],h=>by cases h
theorem ahx{a x}(h:O2 S σ ι dK a x=true):xH (S.a_ ρ) ι dK (a.a_ (σ.map (At.ev ρ))) (x.a_ ρ):=by
 cases a with
 |c f=>
  cases x with
  |c c=>exact Yr h
  |agg=>cases h
 |agg b=>
  cases x with
  |c=>cases h
  |agg cs=>
   obtain⟨d,e⟩:=J9 (ρ:=ρ) h;exact⟨by simpa using d,e⟩
theorem PD:∀{a xs:List bK},zQ S σ ι dK a xs=true->xs.length=a.length/\∀(i:Nat)(b:V1),(a.map (bK.a_ (σ.map (At.ev ρ))))[i]?=some b->∃x,(xs.map (bK.a_ ρ))[i]?=some x/\xH (S.a_ ρ) ι dK b x
 |[],[],_=>⟨rfl,by simp⟩
 |c'::f,c::cs,h=>by
  simp only[zQ,cu]at h;obtain⟨g,j⟩:=PD h.2;refine⟨by simp[g],λi d e=>?_⟩
  cases i with
  |zero=>simp at e;subst e;exact⟨_,rfl,ahx h.1⟩
  |succ i=>grind
 |[],_::_,h=>by cases h
 |_::_,[],h=>by cases h
theorem amv{a b}(h:I2 S σ ι dK a b=true):xk (S.a_ ρ) ι dK (a.a_ (σ.map (At.ev ρ))) (b.a_ ρ):=by
 cases a with
 |box c=>
  cases b with
  |box cs=>
   obtain⟨d,f⟩:=J9 (ρ:=ρ) h;exact⟨by simpa using d,f⟩
  |_=>cases h
 |row e x=>
  cases b with
  |row g y=>
   simp only[I2,cu,beq_iff_eq]at h;exact⟨h.1,by rw[<-At.xl,At.mE h.2]⟩
  |_=>cases h
 |map x=>
  cases b with
  |map y=>
   show(x.ev _).bC=(y.ev _).bC;rw[<-At.xl,At.mE h]
  |_=>cases h
theorem Uz:∀{a:List Nat}{bs:List SB},yz S σ ι dK a bs=true->a.length=bs.length/\∀(i:Nat)(f:eQ),(bs.map (SB.a_ (σ.map (At.ev ρ))))[i]?=some f->∃n b,a[i]?=some n/\(S.a_ ρ).heap.lookup n=some b/\xk (S.a_ ρ) ι dK f b
 |[],[],_=>⟨rfl,by simp⟩
 |n ::a,b::bs,h=>by
  simp only[yz,cu]at h;obtain⟨j,l⟩:=Uz h.2;refine⟨by simp[j],λi d g=>?_⟩
  cases i with
  |zero=>
   simp at g;subst g;have c:=h.1;split at c
   .rename_i k e;exact⟨n,k.a_ ρ,rfl,by rw[eK,e];rfl,amv c⟩
   .cases c
  |succ i=>grind
 |[],_::_,h=>by cases h
 |_::_,[],h=>by cases h
end
def He{α:Type}:List (Option α)->Option (List α)
 |[]=>some []
 |some x::l=>(He l).map (x:: ·)
 |none::_=>none
def bw.bare(T:bV)(s:bw):Bool:=s.res.bare&&s.out.all λx=>match x.2 with
 |.box cs=>cs.all SC.bare
 |.row e (.v i)=>decide (s.gW<=i)&&match(List.lookup e T).bind Ty.ob with
  |some ks=>ks.all λk=>decide (k≠ .sl)
  |none=>false
 |_=>false
def bw.look(s:bw):List Nat:=s.out.filterMap λx=>match x.2 with
 |.row _ (.v i)=>some (i-s.gW)
 |_=>none
def wJ(k:Nat)(o:cU)(a:List Nat):Bool:=a.all λn=>decide (n<k+8)&& (decide (k<=n)|| (List.lookup n o).isSome)
def sameAt:At->At->Bool
 |.v n,.v m=>n==m
 |.i n,.i m=>decide (n=m)
 |.b s,.b t=>s==t
 |.r0,.r0=>true
 |_,_=>false
def L6:SC->SC->Bool
 |.p k x,.p a y=>decide (k=a)&&sameAt x y
 |.nil,.nil=>true
 |.own n,.own m=>n==m
 |.dead,.dead=>true
 |_,_=>false
def Dd:List SC->List SC->Bool
 |[],[]=>true
 |c::cs,d::ds=>L6 c d&&Dd cs ds
 |_,_=>false
def zZ:Option SB->Option SB->Bool
 |some (.box cs),some (.box ds)=>Dd cs ds
 |some (.row e x),some (.row a y)=>decide (e=a)&&sameAt x y
 |_,_=>false
theorem Sk{ρ}:∀{x y:At},sameAt x y=true->x.ev ρ=y.ev ρ:=by
 intro x y h;cases x<;>cases y<;>simp_all [sameAt,At.ev]
theorem aqI{ρ}{c d:SC}(h:L6 c d=true):c.a_ ρ=d.a_ ρ:=by
 cases c<;>cases d<;>simp only[L6,cu,eD,beq_iff_eq,pS]at h
 .obtain⟨rfl,h⟩:=h;simp only[SC.a_,Sk h]
 .rfl
 .subst h;rfl
 .rfl
theorem OQ{ρ}:∀{cs ds:List SC},Dd cs ds=true->cs.map (SC.a_ ρ)=ds.map (SC.a_ ρ)
 |[],[],_=>rfl
 |c::cs,d::ds,h=>by
  simp only[Dd,cu]at h;rw[dk,dk,aqI h.1,OQ h.2]
theorem aqN{ρ}{a b:Option SB}(h:zZ a b=true):a.map (SB.a_ ρ)=b.map (SB.a_ ρ):=by
 unfold zZ at h;split at h
 .simp only[b_,SB.a_,OQ h]
 .simp only[cu,eD]at h;obtain⟨rfl,h⟩:=h;simp only[b_,SB.a_,Sk h]
 .cases h
def yv(S:bq)(ι:List Nat)(u:cU):cU:=u.filter λx=> !(ι.contains x.1&&zZ (List.lookup x.1 u) (List.lookup x.1 S.heap))
theorem Bq{α:Type}{p:Nat->Bool}{n:Nat}:∀{l:List (Nat×α)},List.lookup n (l.filter λx=>p x.1)=if p n then List.lookup n l else none
 |[]=>by simp
 |(k,a)::l=>by
  rw[List.filter_cons];by_cases c:n=k
  .subst c;by_cases hp:p n=true
   .simp[hp]
   .simp only[hp];rw[bH (by simp),Bq,bH hp];simp
  .have b:(n==k)=false:=by simp[c]
   split
   .rw[fD,b,fD,b];exact Bq
   .rw[fD,b];exact Bq
theorem awi(S:bq)(ι:List Nat)(u:cU)(ρ:List L):(∀n b,List.lookup n ((yv S ι u).a_ ρ)=some b->List.lookup n (u.a_ ρ)=some b)/\
 ∀n b,List.lookup n (u.a_ ρ)=some b->List.lookup n ((yv S ι u).a_ ρ)=some b\/n∈ι/\List.lookup n ((yv S ι u).a_ ρ)=none/\List.lookup n (S.a_ ρ).heap=some b:=by
 have key:∀n,List.lookup n (yv S ι u)=if(!(ι.contains n&&zZ (List.lookup n u) (List.lookup n S.heap)))=true then List.lookup n u else none:=λn=>
  Bq (p:=λn=> !(ι.contains n&&zZ (List.lookup n u) (List.lookup n S.heap)))
 refine⟨λn b h=>?_,λn b h=>?_⟩
 .rw[cU.qs,key]at h;rw[cU.qs];split at h
  .exact h
  .cases h
 .rw[cU.qs]at h;rw[cU.qs,key];split
  .exact .inl h
  .rename_i a;simp only[oV,Bool.not_eq_false,cu,ya,eD]at a;refine .inr ⟨a.1,rfl,?_⟩;rw[eK,<-aqN a.2,h]
def EE(T:bV)(S:bq)(d:Nat)(xs:List bK)(s:bw):Option cv:=
 let a:=uz S (Mc S ⟨List.replicate s.gW none,List.replicate s.H.length none,[]⟩ s.params xs) 0 s.H
 match He a.σ,He a.ι with
 |some σ,some ι=>
  let dK:=a.dK
  let bare:=s.bare T&& !dK.isEmpty
  let bu:=(if bare then[]else dK)++(ι.zipIdx.filterMap λx=>if(List.lookup x.2 s.out).isNone then some x.1 else none)
  let c:=km ι d
  let b:=σ++(List.range s.jz).map λi=>.v (S.nv+i)
  if σ.length=s.gW/\decide ι.Nodup=true/\zQ S σ ι dK s.params xs=true/\yz S σ ι dK ι s.H=true/\(ι.all λn=> !S.bu.contains n&& !dK.contains n)=true/\(dK.all λn=> !S.bu.contains n)=true/\
   wJ ι.length s.out s.res.names=true/\(s.out.all λx=>decide (x.1<ι.length+8)&&wJ ι.length s.out x.2.names)=true/\(bu.all λn=>decide (n<d))=true
  then some ⟨[.call s.tag s.F σ s.jz (if bare then s.look else[])],s.res.fk (SC.put b c),⟨yv S ι (s.out.map λx=>(c x.1,x.2.fk (SC.put b c) (At.sub b))),bu⟩,ι++dK⟩else none
 |_,_=>none
theorem SC.UP(ρ)(b:SB):(b.a_ ρ).names=b.names:=by
 cases b with
 |box cs=>exact SC.UG ρ cs
 |row=>rfl
 |map=>rfl
theorem Ar{l:cU}{n b}(h:List.lookup n l=some b):(n,b)∈l:=by
 induction l with
 |nil=>cases h
 |cons x l ih=>
  grind
theorem axZ{P T S ρ d xs s r}(hs:s.ok P)(h:EE T S d xs s=some r)(I:Sat ρ S.nv r.nds):
 zf P (S.a_ ρ) d s.f (xs.map (bK.a_ ρ)) (r.v.a_ ρ) (r.e.a_ ρ) r.rd:=by
 unfold EE at h;simp only at h;generalize uz S (Mc S ⟨List.replicate s.gW none,List.replicate s.H.length none,[]⟩ s.params xs) 0 s.H=a at h;split at h
 .rename_i σ ι ah ai;generalize R:a.dK=dK at h;generalize f:(s.bare T&& !dK.isEmpty)=bare at h;generalize C:(if bare=true then[]else dK)++(ι.zipIdx.filterMap λx=>if(List.lookup x.2 s.out).isNone then some x.1 else none)=bu at h;by_cases hc:σ.length=s.gW/\decide ι.Nodup=true/\zQ S σ ι dK s.params xs=true/\yz S σ ι dK ι s.H=true/\(ι.all λn=> !S.bu.contains n&& !dK.contains n)=true/\(dK.all λn=> !S.bu.contains n)=true/\
   wJ ι.length s.out s.res.names=true/\(s.out.all λx=>decide (x.1<ι.length+8)&&wJ ι.length s.out x.2.names)=true/\(bu.all λn=>decide (n<d))=true
  .rw [bA hc]at h;simp only[jq]at h;subst h;subst C;obtain⟨U,D,W,X,E,J,Y,z,K⟩:=hc;simp only[eD]at D;simp only[cz,cu,oV,ya,x6]at E J;simp only[cz,eD]at K;obtain⟨⟨o,g,aj⟩,_⟩:=I;simp only[Nd.ev]at g;generalize M:(if bare=true then s.look else[])=us at g;split at g
   .rename_i l hF;split at g
    .rename_i t;cases g;obtain⟨Z,F⟩:=t;have aa:(σ.map (At.ev ρ)).length=s.gW:=by simp[U]
     have hA:=hs (σ.map (At.ev ρ)) o aa hF Z;have A:(σ++(List.range s.jz).map λi=>At.v (S.nv+i)).map (At.ev ρ)=σ.map (At.ev ρ)++o:=by
      rw[dE];congr 1;apply sP;intro i;simp only[gp,cX];by_cases hi:i<s.jz
      .simp_all[Nd.n,b_,Function.comp,At.ev,gx]
      simp_all
     obtain⟨ab,ac⟩:=PD (ρ:=ρ) W;obtain⟨k,ad⟩:=Uz (ρ:=ρ) X;have p:∀n,List.lookup n (cU.a_ (σ.map (At.ev ρ)++o) s.out)=(List.lookup n s.out).map (SB.a_ (σ.map (At.ev ρ)++o)):=cU.qs _ s.out;have N:∀ns,wJ ι.length s.out ns=true->∀n∈ns,n<ι.length+8/\(n<ι.length->List.lookup n s.out≠none):=by
      intro ns ae n t;simp only[wJ,cz,cu,oX,eD]at ae;grind
     refine⟨_,_,_,_,ι,dK,hA,by simpa using k,D,by simpa using ab,ac,ad,λn t=>⟨(E n t).1,(E n t).2⟩,J,?_,?_,?_,?_,?_,?_,?_,K,?_,?_,rfl⟩
     .grind[SV.nO]
     .intro n b u;rw[p]at u;simp only[bY]at u;obtain⟨b0,w,rfl⟩:=u;simp only[cz,cu,eD]at z;obtain⟨q,G⟩:=z _ (Ar w);grind[SC.UP]
     .intro n t H;rw[SV.nO]at t;rw[p];have:=(N _ Y n t).2 H
      cases hx:List.lookup n s.out with
      |none=>grind
      |some _=>simp
     .intro n b u m hm H;rw[p]at u;simp only[bY]at u;obtain⟨b0,w,rfl⟩:=u;simp only[cz,cu,eD]at z;obtain⟨q,G⟩:=z _ (Ar w);rw[p];have:=(N _ G m (by grind[SC.UP])).2 H
      cases hx:List.lookup m s.out with
      |none=>grind
      |some _=>simp
     ·
      cases af:bare with
      |false=>grind[gL.a_]
      |true =>
       right;rw[af]at f M;rw[<-M]at F;simp only[cu]at f;have Q:=f.1;unfold bw.bare at Q;simp only[cu,cz]at Q;refine⟨?_,λn b u=>?_⟩
       .have k:=Q.1;generalize s.res=ag at k
        cases ag with
        |v x=>
         cases x with
         |c c=>exact SC.yJ k
         |agg cs=>
          simp only[SV.bare,bK.bare,cz]at k;simp only[SV.a_,bK.a_,V.bare,V1.bare,cz,fE];rintro _ ⟨c,O,rfl⟩;grind[SC.yJ]
        |bL ys=>
         simp only[SV.bare,cz]at k;simp only[SV.a_,V.bare,cz,fE];rintro _ ⟨y,hy,rfl⟩;have:=k y hy
         cases y with
         |c c=>exact SC.yJ this
         |agg cs=>
          simp only[bK.bare,cz]at this;simp only[bK.a_,V1.bare,cz,fE];rintro _ ⟨c,O,rfl⟩;grind[SC.yJ]
       .rw [p]at u;simp only[bY]at u;obtain⟨b0,w,rfl⟩:=u;have B:=Ar w;have q:=Q.2 _ B
        cases b0 with
        |box cs=>
         simp only[cz]at q;simp only[SB.a_,eQ.bare,cz,fE];rintro _ ⟨c,O,rfl⟩;grind[SC.yJ]
        |row e x=>
         cases x with
         |v i=>
          simp only[cu,eD]at q;have ak:i-s.gW∈s.look:=by
           exact sR.2 ⟨_,B,rfl⟩
          grind[SB.a_,eQ.bare,At.ev]
         |_=>cases q
        |map=>cases q
     ·
      intro i n hi;rw[p];simp only[gL.a_,gI,sR];constructor
      .rintro(q| ⟨⟨m,j⟩,q,G⟩)
       .grind
       .split at G
        .rename_i h3;cases G;rw[List.mem_zipIdx_iff_getElem?]at q;have h4:=kE.1 D;have:i=j:=by
          grind
         subst this;simp only[Option.isNone_iff_eq_none]at h3;rw[h3];rfl
        .cases G
      .intro q;right;refine⟨(n,i),by grind,?_⟩;have:List.lookup i s.out=none:=by
        cases hx:List.lookup i s.out with
        |none=>rfl
        |some _=>grind
       rw[this];rfl
     .intro n t;simp only[gL.a_,gI,sR]at t;rcases t with q| ⟨⟨m,j⟩,q,G⟩
      .grind
      grind
     .rw[SV.xc,A]
     .have hU:Hp.dJ (km ι d) (cU.a_ (σ.map (At.ev ρ)++o) s.out)=cU.a_ ρ (s.out.map λx=>(km ι d x.1,x.2.fk (SC.put (σ++(List.range s.jz).map λi=>At.v (S.nv+i)) (km ι d)) (At.sub (σ++(List.range s.jz).map λi=>At.v (S.nv+i))))):=by
       simp only[cU.a_,Hp.dJ,gp];apply gz;intro x _;simp only[Function.comp,SB.xc,A]
      rw[hU];exact awi S ι _ ρ
    .cases g
   .cases g
  grind
 .cases h
end
end
end Go.Proofs.YtiikkkhcolcebaaGreatDoor
