/- A part. -/
import Derived.Test.YtndegphojkiblaaGreatDoorG9
import Derived.Test.YtndegphojkiblaaGreatDoorG12
import Derived.Test.YtndegphojkiblaaGreatDoorProg
import Derived.WalkKit
set_option linter.all false
set_option maxHeartbeats 4000000
set_option maxRecDepth 100000
namespace Go.Proofs.YtndegphojkiblaaGreatDoor
noncomputable section
section
namespace Pl
structure It where
 key:Int
 cookie:Int
 off:Int
 size:Int
deriving DecidableEq,Inhabited
def cJ(n:Int):Int:=if n<0\/4096<n then 0 else(n+31) /8*8
def fe(x:It):Bool:=decide (16<=x.off)&&decide (x.off<=1048576)&&decide (x.off%8=0)&&decide (0<=x.size)&&decide (x.size<=4096)
def gd(l:List It):Prop:=l.Pairwise λa b=>a.key<b.key
def VL(l:List It):Prop:=gd l/\∀x∈l,fe x=true
def ends(x:It):Int:=x.off+cJ x.size
theorem Eb{x}(h:fe x=true):24<=cJ x.size:=by
 simp only[fe,cd,dj]at h;unfold cJ;omega
def Clear(a b:It):Prop:=¬(a.off<=b.off/\b.off<ends a)/\¬(b.off<=a.off/\a.off<ends b)
theorem Clear.symm{a b}(h:Clear a b):Clear b a:=⟨h.2,h.1⟩
def ly:Int->List It->Option Int
 |e,[]=>some e
 |e,x::l=>if x.off<e then none else ly (ends x) l
theorem alm(l:List It)(d:∀x∈l,fe x=true)(p:l.Pairwise λa b=>a.off<=b.off)(size:Int):∀e:Int,(∀x∈l,e<=x.off)->e<=size->
 ((∃r,ly e l=some r/\r<=size)↔(l.Pairwise Clear/\∀x∈l,ends x<=size)):=by
 induction l with
 |nil=>intro e _ h;simp[ly,h]
 |cons a l ih=>
  intro e q s;have t:=Eb (d a (by simp));have i:=ma.1 p;have k:¬a.off<e:=by have:=q a (by simp);omega
  simp only[ly,bO k];by_cases j:ends a<=size
  .by_cases hall:∀x∈l,ends a<=x.off
   .rw [ih (λx c=>d x (by simp[c])) i.2 (ends a) hall j];rw[ma];constructor
    .rintro⟨f,g⟩;refine⟨⟨λb m=>⟨λh=>?_,λh=>?_⟩,f⟩,λx c=>?_⟩
     .have:=hall b m;omega
     .have:=hall b m;unfold ends at*;omega
     .rcases dn.1 c with rfl|c
      .exact j
      .exact g x c
    .rintro⟨⟨_,f⟩,g⟩;exact⟨f,λx c=>g x (by simp[c])⟩
   .constructor
    .rintro⟨r,f,_⟩;exfalso;apply hall;intro x c
     match l,c,f with
     |b ::u,c,f=>
      simp only[ly]at f;split at f
      .cases f
      .rcases dn.1 c with rfl|n
       .omega
       .have:=(ma.1 i.2).1 x n;omega
    .rintro⟨f,_⟩;exfalso;apply hall;intro x c;have g:=(ma.1 f).1 x c;have v:=i.1 x c;have:=g.1;omega
  .constructor
   .rintro⟨r,f,g⟩;have key:∀(l:List It)(e r:Int),(∀x∈l,fe x=true)->ly e l=some r->e<=r:=by
     intro l
     induction l with
     |nil=>intro e r _ h;simp[ly]at h;omega
     |cons b l o=>
      intro e r d h;simp only[ly]at h;split at h
      .cases h
      .have:=o _ _ (λx c=>d x (by simp[c])) h;have m:=Eb (d b (by simp));unfold ends at this;omega
    have:=key l _ _ (λx c=>d x (by simp[c])) f;omega
   .rintro⟨_,g⟩;exact absurd (g a (by simp)) j
theorem akS{l e}(f:∀x∈l,fe x=true)(hp:e.Perm l)(k:e.Pairwise λa b=>a.off<=b.off)(size)(g:16<=size):
 (∃r,ly 16 e=some r/\r<=size)↔(l.Pairwise Clear/\∀x∈l,ends x<=size):=by
 have c:∀x∈e,fe x=true:=λx d=>f x (hp.mem_iff.1 d)
 rw[alm e c k size 16 (λx d=>by have:=c x d;simp only[fe,cd,dj]at this;omega) g];rw[hp.pairwise_iff (λh=>Clear.symm h)];constructor
 .rintro⟨i,j⟩;exact⟨i,λx d=>j x (hp.mem_iff.2 d)⟩
 .rintro⟨i,j⟩;exact⟨i,λx d=>j x (hp.mem_iff.1 d)⟩
def ins(x:It):List It->List It
 |[]=>[x]
 |a::l=>if a.key<x.key then a::ins x l else if a.key=x.key then x::l else x::a::l
def ji(l:List It):List It:=l.foldl (λa x=>ins x a) []
theorem Ca{x y:It}:∀{l:List It},y∈ins x l->y=x\/y∈l
 |[],h=>by simp[ins]at h;exact .inl h
 |a::l,h=>by
  unfold ins at h;split at h
  .rcases dn.1 h with rfl|h
   .exact .inr (by simp)
   .rcases Ca h with h|h
    .exact .inl h
    .exact .inr (by simp[h])
  .split at h
   .rcases dn.1 h with rfl|h
    .exact .inl rfl
    .exact .inr (by simp[h])
   .rcases dn.1 h with rfl|h
    .exact .inl rfl
    .exact .inr h
theorem Up(x):∀{l},gd l->gd (ins x l)
 |[],_=>by simp[ins,gd]
 |a::l,h=>by
  have c:=ma.1 h;unfold ins;split
  .rename_i d;refine ma.2 ⟨λy b=>?_,Up x c.2⟩;rcases Ca b with rfl|b
   .exact d
   .exact c.1 y b
  .split
   .rename_i _ e;exact ma.2 ⟨λy b=>by rw[<-e];exact c.1 y b,c.2⟩
   .refine ma.2 ⟨λy b=>?_,h⟩;rcases dn.1 b with rfl|b
    .omega
    .have:=c.1 y b;omega
theorem UT:∀(l a:List It),gd a->gd (l.foldl (λa x=>ins x a) a)
 |[],_,h=>h
 |x::l,a,h=>UT l (ins x a) (Up x h)
theorem AO(l):gd (ji l):=UT l [] (by simp[gd])
theorem ZY:∀(l a:List It)(y),y∈l.foldl (λa x=>ins x a) a->y∈l\/y∈a
 |[],_,_,h=>.inr h
 |x::l,a,y,h=>by
  rcases ZY l (ins x a) y h with h|h
  .exact .inl (by simp[h])
  .rcases Ca h with rfl|h
   .exact .inl (by simp)
   .exact .inr h
theorem Q6{l y}(h:y∈ji l):y∈l:=by
 rcases ZY l [] y h with h|h
 .exact h
 .cases h
def kz(l:List It):Prop:=l.Pairwise λa b=>a.key≠b.key
theorem gd.apart{l}(h:gd l):kz l:=h.imp λh e=>om
theorem aaZ{x}:∀{l},(∀y∈l,y.key≠x.key)->(ins x l).Perm (x::l)
 |[],_=>by simp[ins]
 |a::l,h=>by
  have c:¬a.key=x.key:=h a (by simp);unfold ins;split
  .exact((aaZ λy b=>h y (by simp[b])).cons a).trans (List.Perm.swap x a l)
  .exact G3 _
theorem Wd:∀(l a),kz l->(∀x∈l,∀y∈a,y.key≠x.key)->(l.foldl (λa x=>ins x a) a).Perm (l++a)
 |[],_,_,_=>G3 _
 |x::l,a,f,d=>by
  have b:=ma.1 f;refine(Wd l (ins x a) b.2 λz e y c=>?_).trans ?_
  .rcases Ca c with rfl|c
   .exact b.1 z e
   .exact d z (by simp[e]) y c
  .exact((aaZ (d x (by simp))).append_left l).trans List.perm_middle
theorem Tc{l}(h:kz l):(ji l).Perm l:=by
 have:=Wd l [] h (λ_ _ _ a=>by cases a)
 rwa [ju]at this
theorem aaS:∀{l c},gd l->gd c->l.Perm c->l=c
 |[],c,_,_,hp=>by simpa using hp.symm.eq_nil
 |a::l,[],_,_,hp=>by simpa using hp.eq_nil
 |a ::l,b::c,h,k,hp=>by
  have i:=ma.1 h;have j:=ma.1 k;have d:a=b:=by
   have f:a∈b::c:=hp.mem_iff.1 (by simp);have g:b∈a::l:=hp.mem_iff.2 (by simp);rcases dn.1 f with e|f
   .exact e
   .rcases dn.1 g with e|g
    .exact e.symm
    .have:=i.1 b g;have:=j.1 a f;omega
  subst d;rw[aaS i.2 j.2 ((List.perm_cons a).1 hp)]
theorem QJ{l a}(b:gd a)(hp:a.Perm l)(c:kz l):ji l=a:=
 aaS (AO l) b ((Tc c).trans hp.symm)
theorem LA{l}(h:gd l):ji l=l:=QJ h (G3 _) h.apart
def fE(l:List It)(k:Int):Option It:=l.reverse.find? λx=>decide (x.key=k)
theorem L8{l}(h:kz l){x}(d:x∈l):fE l x.key=some x:=by
 unfold fE;have b:x∈l.reverse:=by simpa using d
 have c:kz l.reverse:=List.pairwise_reverse.2 (h.imp λh=>Ne.symm h);generalize l.reverse=r at*
 induction r with
 |nil=>cases b
 |cons a r ih=>
  rw[List.find?_cons];rcases dn.1 b with rfl|d
  .simp
  .have:=(ma.1 c).1 x d;rw[show decide (a.key=x.key)=false by simpa using this];exact ih d (ma.1 c).2
theorem R'{l k}(h:∀x∈l,x.key≠k):fE l k=none:=by
 unfold fE;rw[List.find?_eq_none];intro x a;simpa using h x (by simpa using a)
theorem ahK{l k x}(h:fE l k=some x):x∈l/\x.key=k:=by
 have a:=List.mem_of_find?_eq_some h;have b:=List.find?_some h;exact⟨by simpa using a,by simpa using b⟩
end Pl
end
section
open Go.RowKit
def bw(x:Pl.It):List PV:=[.sc (.int .u64 x.key),.sc (.int .u32 x.cookie),.sc (.int .i64 x.off),.sc (.int .i64 x.size)]
abbrev By:=List (List PV)
def ie:List PV:=[.sc (.int .u8 0)]
structure Wr where
 off:Int
 data:By
 cut:Bool
structure Fl where
 name:fy
 base:By
 bT:List Wr
structure Dk where
 cap:Int
 left:Int
 files:List Fl
def eX(w:Wr):List PV:=[.sc (.int .i64 w.off),.sl w.data,.sc (.bool w.cut)]
def ch(f:Fl):List PV:=[.sc (.string f.name),.sl f.base,.sl (f.bT.map eX)]
def gD(b:By)(w:Wr):By:=if w.cut=true then b.take w.off.toNat else(b++List.replicate (w.off.toNat-b.length) ie).take w.off.toNat++w.data++b.drop (w.off.toNat+w.data.length)
def qZ(n:Int)(w:Wr):Int:=if w.cut=true then min n w.off else max n (w.off+w.data.length)
def okW(w:Wr):Prop:=0<=w.off/\w.off<=1048576/\¬(w.cut=true/\0<w.data.length)
instance (w:Wr):Decidable (okW w):=inferInstanceAs (Decidable (_/\_/\_))
def Et:By->List Wr->Prop
 |_,[]=>True
 |b,w::a=>okW w/\(gD b w).length<=1048576/\Et (gD b w) a
def okF(b:By)(a:List Wr):Prop:=b.length<=1048576/\Et b a
def dG(b:By)(a:List Wr):By:=a.foldl gD b
theorem KI{b w}(h:0<=w.off):((gD b w).length:Int)=qZ b.length w:=by
 unfold gD qZ;split
 .simp only[eA];omega
 .simp only[ez,eA,mT,iw];omega
def wA(w:Wr):Prop:=cf 1 w.data=true/\w.data.length<=4294967296
def we(f:Fl):Prop:=cf 1 f.base=true/\f.base.length<=4294967296/\f.bT.length<=4294967296/\∀w∈f.bT,wA w
theorem yu{n a b}(c:cf n a=true)(d:cf n b=true):cf n (a++b)=true:=by
 unfold cf at*;simp[List.all_append,c,d]
theorem FY{n m a}(h:cf n a=true):cf n (a.take m)=true:=by
 unfold cf at*;rw[cj]at*;exactλx b=>h x (iR b)
theorem VP{n m a}(h:cf n a=true):cf n (a.drop m)=true:=by
 unfold cf at*;rw[cj]at*;exactλx b=>h x (pa b)
theorem C3{n m r}(h:r.length=n):cf n (List.replicate m r)=true:=by
 unfold cf;rw[cj];exactλx a=>by rw[G0 a];simpa using h
theorem aqe{b:By}{w}(a:cf 1 b=true)(c:wA w):cf 1 (gD b w)=true:=by
 unfold gD;split
 .exact FY a
 .exact yu (yu (FY (yu a (C3 rfl))) c.1) (VP a)
theorem tM{a}:∀{b:By},cf 1 b=true->(∀w∈a,wA w)->cf 1 (dG b a)=true:=by
 induction a with
 |nil=>exactλh _=>h
 |cons w a ih=>exactλh c=>ih (aqe h (c w eJ)) λx d=>c x (fp _ d)
theorem tK{b}{a:List Wr}{k}(h):dG b (a.take (k+1))=gD (dG b (a.take k)) a[k]:=by
 unfold dG;rw[gW h,Qf];rfl
def uq(b:By)(a:List Wr)(k:Nat):Prop:=∀(j:Nat)(h:j<a.length),j<k->okW a[j]/\(dG b (a.take (j+1))).length<=1048576
theorem pV{a:List Wr}:∀{b:By},Et b a↔uq b a a.length:=by
 induction a with
 |nil=>exactλ{b}=>⟨λ_ j h=>absurd h (sD _),λ_=>trivial⟩
 |cons w a ih=>
  intro b;unfold Et;rw[ih];constructor
  .rintro⟨d,e,f⟩ j c g
   cases j with
   |zero=>exact⟨d,by simpa[dG]using e⟩
   |succ j=>
    have:=f j (by simpa using c) (by simpa using c);simpa[dG]using this
  .intro h;refine⟨(h 0 (by simp) (by simp)).1,by simpa[dG]using(h 0 (by simp) (by simp)).2,λj c g=>?_⟩;have:=h (j+1) (by simpa using c) (by simpa using c);simpa[dG]using this
theorem R6{b a}:uq b a 0:=λ_ _ h=>absurd h (sD _)
theorem Ww{b a k}(h)(c:uq b a k)(d:okW a[k])(f:(dG b (a.take (k+1))).length<=1048576):uq b a (k+1):=λj g i=>by
 by_cases e:j=k
 .subst e;exact⟨d,f⟩
 .exact c j g om
theorem pL{b a k}(c:b.length<=1048576)(h:uq b a k)(d:k<=a.length):(dG b (a.take k)).length<=1048576:=by
 cases k with
 |zero=>simpa[dG]using c
 |succ k=>exact(h k om om).2
def kO(c:Nat):Prop:=(97<=c/\c<=122)\/(48<=c/\c<=57)\/c=46\/c=45
def ic(s:fy):Prop:=(∀(i:Nat)(b:UInt8),s[i]?=some b->kO b.toNat)/\1<=s.size/\s.size<=40
def rY(a b:fy):Bool:=Op.bytesLess a.toList b.toList||a.toList==b.toList
def ov(d:Dk):Prop:=(0<=d.cap∧-1<=d.left/\d.files.length<=256)/\∀(i:Nat)(h:i<d.files.length),(ic d.files[i].name/\okF d.files[i].base d.files[i].bT)/\∀a:0<i,rY d.files[i].name (d.files[i-1]'om).name=false
def oZ(d:Dk):Prop:=d.files.length<=4294967296/\∀f∈d.files,we f/\f.name.size<=4611686018427387904
def jh(d:Dk)(s:fy)(i:Nat):Prop:=∃h:i<d.files.length,(d.files[i].name.toList==s.toList)=true/\∀(j:Nat)(a:j<i),((d.files[j]'om).name.toList==s.toList)=false
def nK(d:Dk)(s:fy):Prop:=∀(j:Nat)(h:j<d.files.length),(d.files[j].name.toList==s.toList)=false
def Wh(d:Dk)(s:fy)(c:By):Prop:=ov d/\ic s/\d.left≠0/\∃i,∃h:jh d s i,c=dG (d.files[i]'h.1).base (d.files[i]'h.1).bT
def jq(c:By)(off n:Int):Prop:=off<0\/n<0\/(c.length:Int)<off\/(c.length:Int) -off<n
theorem dC(P):∃b,(b=true↔P):=by
 by_cases h:P
 .exact⟨true,⟨λ_=>h,λ_=>rfl⟩⟩
 .exact⟨false,⟨λh=>(by cases h),λa=>absurd a h⟩⟩
class Ok(s:bB):Prop where
 h:s.ok Tryz.prog
class wZ(C:dt):Prop where
 h:dt.ok Tryz.prog C
instance:wZ []:=⟨λs a=>by cases a⟩
instance {s:bB}{C:dt}[a:Ok s][b:wZ C]:wZ (s::C):=⟨λx c=>by
 rcases dn.1 c with rfl|c
 .exact a.h
 .exact b.h x c⟩
theorem Ok.j(s:bB)[a:Ok s]:s.ok Tryz.prog:=a.h
def TT:b_:=[2,3,4,5,9,22,23,25,27,29,30,31,33,34,36,40,42,45,49,50,51,53,54,55,58,60,62,64,67,71,73,75,76,80,81,83,84,89,90,92,94,107,109,111,125,127,128,129,131,135,143,144,146,149,150,154,156,162,165,166,185,196,233,263,295,298,299,301,311,315,318,321,323,328,339,356,379,388,408,436,437].map λi=>(i,fc Tryz.prog i)
theorem gf:b_.ok Tryz.prog TT:=b_.C8 kr
def TTx:b_:=(999999,fc Tryz.prog 999999)::TT
theorem ase:b_.ok Tryz.prog TTx:=b_.C8 kr
def TTy:b_:=(999998,fc Tryz.prog 999998)::TT
theorem aop:b_.ok Tryz.prog TTy:=b_.C8 kr
theorem zv:Tryz.prog.follows .mixedOrders=true:=kr
theorem dt.ok.nil:dt.ok Tryz.prog []:=λs a=>by cases a
theorem dt.ok.cons{s:bB}{C:dt}(h:s.ok Tryz.prog)(d:dt.ok Tryz.prog C):dt.ok Tryz.prog (s::C):=λx a=>by
 rcases dn.1 a with rfl|a
 .exact h
 .exact d x a
def w(a n:Nat):List At:=(List.range n).map λi=>.v (a+i)
def pi(n:Nat):SC:=.p (.int .i64) (.v n)
def ps(n:Nat):SC:=.p .sl (.v n)
def ci(n:Nat):bK:=.c (pi n)
def cs(n:Nat):bK:=.c (ps n)
def de(a n:Nat):List SC:=(List.range n).map λi=>pi (a+i)
def eT(a n:Nat):List SC:=(List.range n).map λi=>ps (a+i)
def xF(T:b_)(C:dt)(f:Func)(n:Nat)(p:List bK)(H:List SB):a8:=match tQ T C f n p H with
 |some o=>o.Dx
 |none=>default
theorem okS{s:bB}(x:a8){T:b_}{C:dt}{fn:Func}(a:b_.ok Tryz.prog T)(b:dt.ok Tryz.prog C)(c:Tryz.prog.funcs[s.f]?=some fn) (hname:(fn.name== "runtime.NumGoroutine")=false) (h:tQ T C fn s.fF s.params s.H=some ⟨x,s.res,s.out,s.il⟩) (d:s.F=Fo x):s.ok Tryz.prog:=
 aqs a b zv c hname h (F:=s.F) (λls=>by rw[d];rfl) s.tag
theorem oT{s:bB}{T:b_}(b:b_.ok Tryz.prog T)(C:dt)(x:a8)[c:wZ C](d:s.F=Fo x:=by rfl)(e:(Tryz.prog.funcs[s.f]?).isSome=true:=by kernel_rfl) (hname:(((Tryz.prog.funcs[s.f]?).getD default).name== "runtime.NumGoroutine")=false:=by kernel_rfl) (h:tQ T C ((Tryz.prog.funcs[s.f]?).getD default) s.fF s.params s.H=some ⟨x,s.res,s.out,s.il⟩:=by kernel_rfl):Ok s:=by
 obtain⟨fn,a⟩:=xD.1 e;rw[a]at hname h;exact⟨okS x b c.h a hname h d⟩
theorem oS{s:bB}(C:dt){x:a8}[wZ C](a:s.F=Fo x:=by rfl)(b:(Tryz.prog.funcs[s.f]?).isSome=true:=by kernel_rfl) (hname:(((Tryz.prog.funcs[s.f]?).getD default).name== "runtime.NumGoroutine")=false:=by kernel_rfl) (h:tQ TT C ((Tryz.prog.funcs[s.f]?).getD default) s.fF s.params s.H=some ⟨x,s.res,s.out,s.il⟩:=by kernel_rfl):Ok s:=oT gf C x a b hname h
def mS(C:dt)(f:FuncId)(p:List bK)(H:List SB)(a b:Nat)(c:SV)(d:List (Nat×SB))(tag:Nat):bB:=⟨f,p,H,a,b,c,d,Fo (xF TT C ((Tryz.prog.funcs[f]?).getD default) a p H),tag⟩
theorem oM{C:dt}{f:FuncId}{p:List bK}{H:List SB}{b a:Nat}{c:SV}{d:List (Nat×SB)}{tag:Nat}[wZ C](e:(Tryz.prog.funcs[f]?).isSome=true:=by kernel_rfl) (hname:(((Tryz.prog.funcs[f]?).getD default).name== "runtime.NumGoroutine")=false:=by kernel_rfl) (h:tQ TT C ((Tryz.prog.funcs[f]?).getD default) b p H=some ⟨xF TT C ((Tryz.prog.funcs[f]?).getD default) b p H,c,d,a⟩:=by kernel_rfl):Ok (mS C f p H b a c d tag):=oT (s:=mS C f p H b a c d tag) gf C _ rfl e hname h
abbrev a8.j(l:List At):a8:=.br (.jump 0 l)
abbrev a8.bI(o:BinOp)(a b:At)(k:a8):a8:=.op (.bi o .i64 a b) k
abbrev a8.ln(a:At)(k:a8):a8:=.op (.len a) k
abbrev a8.no(a:At)(k:a8):a8:=.op (.not a) k
abbrev a8.cA(t:Nat)(F:List L->Option (List L))(l:List At)(n:Nat)(k:a8):a8:=.op (.call t F l n []) k
abbrev a8.cl(a:At)(j:Nat)(d:Kd)(k:a8):a8:=.op (.cl a j d) k
abbrev a8.rw(a b:At)(n:Nat)(k:a8):a8:=.op (.row a b n) k
abbrev U0:At:=.v 0
abbrev U1:At:=.v 1
abbrev U2:At:=.v 2
abbrev U3:At:=.v 3
abbrev U4:At:=.v 4
abbrev U5:At:=.v 5
abbrev U6:At:=.v 6
abbrev U7:At:=.v 7
abbrev U8:At:=.v 8
abbrev U9:At:=.v 9
abbrev bA:At:=.v 10
abbrev bD:At:=.v 11
abbrev bJ:At:=.v 12
abbrev bH:At:=.v 13
abbrev bM:At:=.v 14
abbrev bL:At:=.v 15
abbrev bV:At:=.v 16
abbrev bR:At:=.v 17
abbrev bW:At:=.v 18
abbrev bX:At:=.v 19
abbrev b9:At:=.v 20
abbrev cu:At:=.v 21
abbrev cq:At:=.v 22
abbrev cv:At:=.v 23
abbrev cX:At:=.v 24
abbrev cG:At:=.v 25
abbrev cK:At:=.v 26
abbrev c9:At:=.v 27
abbrev dJ:At:=.v 28
abbrev dI:At:=.v 29
abbrev eo:At:=.v 30
abbrev fm:At:=.v 31
abbrev e_:At:=.v 32
abbrev eH:At:=.v 33
abbrev gG:At:=.v 34
abbrev fv:At:=.v 35
abbrev mb:At:=.v 36
abbrev oP:At:=.v 37
abbrev lx:At:=.v 38
abbrev nz:At:=.v 39
abbrev nH:At:=.v 40
abbrev ou:At:=.v 41
abbrev tW:At:=.v 42
abbrev Az:At:=.v 43
abbrev xj:At:=.v 44
abbrev vW:At:=.v 45
abbrev tj:At:=.v 46
abbrev jA:At:=.v 47
abbrev lH:At:=.v 48
abbrev nl:At:=.v 49
abbrev nf:At:=.v 50
abbrev kD:At:=.v 51
abbrev nG:At:=.v 52
abbrev kJ:At:=.v 53
abbrev CO:At:=.v 54
abbrev Cv:At:=.v 55
abbrev AP:At:=.v 56
abbrev yN:At:=.v 57
abbrev Eg:At:=.v 58
abbrev tG:At:=.v 59
abbrev NK:At:=.v 60
abbrev pj:At:=.v 61
abbrev qY:At:=.v 62
abbrev YK:At:=.v 63
abbrev En:At:=.v 64
abbrev CK:At:=.v 65
abbrev Fs:At:=.v 66
abbrev Nw:At:=.v 67
abbrev Uv:At:=.v 68
abbrev U69:At:=.v 69
abbrev U70:At:=.v 70
abbrev Wa:At:=.v 71
abbrev Ue:At:=.v 72
abbrev YL:At:=.v 73
abbrev Wn:At:=.v 74
abbrev U75:At:=.v 75
abbrev Ys:At:=.v 76
abbrev TC:At:=.v 77
abbrev To:At:=.v 78
abbrev Xq:At:=.v 79
end
end
end Go.Proofs.YtndegphojkiblaaGreatDoor
