/- Plain lemmas: what the functions of the program and of the reference compute. -/
import Derived.Test.YtpagkickoiafkaaGreatSfRead
import Derived.Test.YtpagkickoiafkaaGreatFns
import Derived.Test.YtpagkickoiafkaaGreatSfPl
set_option linter.all false
set_option maxRecDepth 100000
open Option renaming some->Y,none->W
open Bool renaming true->X,false->T
open Bool renaming not_eq_true->l!,not_eq_true'->l?
open List renaming any_eq_false->m_,any_eq_true->m?,pairwise_iff_getElem->nc,range->nQ
namespace Go.Sf
theorem QR{ρ:Type}{d:Int->Option ρ}{r:ρ}:∀{n:Nat}{a:Int},Mk d n a=Y r->∃i,a<=i/\i<a+n/\d i=Y r/\∀j,a<=j->j<i->d j=W
 |0,_,h=>b?
 |n+1,a,h=>by
  rw [Mk]at h;cases hd:d a with
  |some p=>
   grind
  |none=>
   rw [hd]at h;obtain⟨i,e,f,m,o⟩:=QR h
   grind
variable{a b:Int}
theorem FB{ρ:Type}{d:Int->Option ρ}{r:ρ}(h:fst d a b=Y r):∃i,a<=i/\i<b/\d i=Y r/\∀j,a<=j->j<i->d j=W:=by
 obtain ⟨i,e,f,m,o⟩:=QR h
 grind
def gU(p:Int->Bool)(s:ByteArray):Int:=(fst (λi=>if p (bt s i)then W else Y i) 0 s.size).getD s.size
end Go.Sf
namespace Go.Sf.Sc
open Go Go.Sf
def Ti(c:Int):Bool:=((decide (97<=c))&&(decide (c<=122)))||((decide (65<=c))&&(decide (c<=90)))
def digitB(c:Int):Bool:=(decide (48<=c))&&(decide (c<=57))
def dw(c:Int):Bool:=Ti c||digitB c||decide (c=95)
def OW(s:ByteArray):Bool:=decide (0<s.size)&&Ti (bt s 0)&&decide (s.size<=20)&&decide (gU dw s=s.size)
end Go.Sf.Sc
namespace Go.Sf
variable{ρ β:Type}
def nz(e:Int):QQ:=if e=0 then W else Y e
variable{a b:Int}
theorem VW{c:Int->Int}(h:(fst (λi=>nz (c i)) a b).getD 0=0):∀i,a<=i->i<b->c i=0:=by
 have:fst (λi=>nz (c i)) a b=W:=by
  cases hf:fst (λi=>nz (c i)) a b with
  |none=>rfl|some r=>
   grind [Option.getD,FB,nz]
 grind [CE,nz]
theorem PJ{e:Int}:nz e=W↔e=0:=by grind[nz]
end Go.Sf
namespace Go.Sf.Sc
open Go Go.Sf
instance:Inhabited jy:=⟨⟨⟨#[]⟩,0,0,[]⟩⟩
instance:Inhabited Bn:=⟨⟨⟨#[]⟩,0,T,[]⟩⟩
instance:Inhabited B9:=⟨⟨⟨#[]⟩,0,0,0,0,0,0⟩⟩
instance:Inhabited Bp:=⟨⟨0,0,0⟩⟩
instance:Inhabited Ci:=⟨⟨0,0,⟨0,0⟩⟩⟩
instance:Inhabited Test:=⟨⟨0,⟨0,0⟩,⟨0,0⟩⟩⟩
instance:Inhabited gt:=⟨⟨0,[],⟨[],[]⟩,⟨⟨[],[]⟩,[],0,[]⟩⟩⟩
structure WM(a:jy):Prop where
 name:(a.jO.size:Int)<=40
 names:a.ku.length<=25
 each:∀x∈a.ku,(x.size:Int)<=40
structure Jb(t:AE):Prop where
 ji:t.fd.length<=20
 jw:t.fq.length<=30
 name:∀n∈t.fd,(n.jO.size:Int)<=40
 attrs:∀n∈t.fd,n.kw.length<=30
 each:∀n∈t.fd,∀a∈n.kw,WM a
 ename:∀e∈t.fq,(e.jO.size:Int)<=40
def par(t:AE)(i:Int):Int:=(AD t.fd i).kq
def Ga(t:AE)(k:Int):Prop:=∀i,0<=i->i<k->-1<=par t i/\par t i<i
def B3(t:AE):Nat->Int->List jy
 |0,_=>[]|n+1,a=>if a<0 then[]else B3 t n (par t a)++(AD t.fd a).kw
def BG(t:AE)(a:Int):List jy:=B3 t (a+1).toNat a
variable{t:AE}{a:Int}
theorem QI{n:Nat}(h:a<0):B3 t n a=[]:=by
 cases n with
 |zero=>rfl|succ n=>rw[B3,ae h]
variable{k:Int}
theorem RB(d:Ga t k):∀(n m:Nat)(a:Int),a<k->a<n->a<m->B3 t n a=B3 t m a
 |n,m,a,f,h,j=>by
  by_cases e:a<0
  .grind[QI]
  .cases n with
   |zero=>omega|succ n=>
    cases m with
    |zero=>omega|succ m=>
     rw [B3,B3,az e,az e];have:=d a U f;rw[RB d n m (par t a) U U U]
theorem QH(hf:Jb t)(e:k<=t.fd.length)(d:Ga t k):∀(n:Nat)(a:Int),a<k->((B3 t n a).length:Int)<=30*n
 |0,_,_=>by simp[B3]|n+1,a,f=>by
  rw [B3];split
  .simp;omega
  .rename_i h;have j:=d a U f;have m:=QH hf e d n (par t a) U;have o:=hf.attrs _ (CL (l:=t.fd) (show 0<=a by omega) U)
   grind
theorem QG(hf:Jb t)(f:k<=t.fd.length)(e:Ga t k):∀(n:Nat)(a:Int),a<k->∀x∈B3 t n a,WM x
 |0,_,_=>by simp[B3]|n+1,a,h=>by
  rw [B3];split
  .simp
  .rename_i j;have m:=e a U h;intro x d;rcases List.mem_append.1 d with d|d
   .exact QG hf f e n (par t a) U x d
   .exact hf.each _ (CL (l:=t.fd) (show 0<=a by omega) U) x d
theorem UD(hf:Jb t)(d:k<=t.fd.length)(e:Ga t k)(f:a<k):(BG t a).length<=600:=by
 have:=QH hf d e (a+1).toNat a f;have:=hf.ji;unfold BG;omega
theorem UC(hf:Jb t)(d:k<=t.fd.length)(e:Ga t k)(f:a<k):∀x∈BG t a,WM x:=QG hf d e _ a f
end Go.Sf.Sc
namespace Go.Sf.Sc
open Go Go.Sf
def Vf(l:List ByteArray):Int:=
 if (20:Int)<l.length then 3 else(fst (λi=>if OW (AD l i)=T then Y 2 else if E4 (λj=>AD l j==AD l i) 0 i=X then Y 5 else W) 0 l.length).getD 0
def MY(all:List jy)(k:Int):Int:=
 let x:=AD all k
 if OW x.jO=T then 2 else if E4 (λj=>(AD all j).jO==x.jO) 0 k=X then 5 else
 if x.ku.length=0 then(if -1000000<=x.li/\x.li<=x.kJ/\x.kJ<=1000000 then 0 else 6)else
 if Vf x.ku≠0 then Vf x.ku else if x.li=0/\x.kJ=x.ku.length-1 then 0 else 6
def LB(t:AE)(i:Int):Int:=
 let n:=AD t.fd i
 if OW n.jO=T then 2 else if E4 (λj=>(AD t.fd j).jO==n.jO) 0 i=X then 5 else
 if n.kq< -1\/i<=n.kq then 6 else if 4<n.kw.length\/8<(BG t i).length then 3 else
 (fst (λk=>nz (MY (BG t i) k)) ((BG t i).length-n.kw.length) (BG t i).length).getD 0
variable{t:AE}{i:Int}
theorem Ga.next(h:Ga t i)(e:-1<=par t i)(f:par t i<i):Ga t (i+1):=by
 intro j d m;by_cases o:j=i
 .grind
 .exact h j d U
def VL(low high:Int):Bool:=((decide (0<=low))&&(decide (low<=40)))&&((decide (high=(-1)))||((decide (low<=high))&&(decide (high<=40))))
def QO(t:AE)(i:Int):Int:=
 let x:=AD t.fq i
 if OW x.jO=T then 2 else if E4 (λj=>(AD t.fq j).jO==x.jO) 0 i=X then 5 else
 if (0<=x.jK/\x.jK<t.fd.length)/\(0<=x.To/\x.To<t.fd.length)/\VL x.mu x.lU=X/\VL x.mX x.mA=X then 0 else 6
def CF(t:AE):ByteArray×Int:=
 if t.fd.length=0 then(⟨#[]⟩,7)else if 12<t.fd.length\/20<t.fq.length then(⟨#[]⟩,3)else
 match fst (λi=>(nz (LB t i)).map λe=>((AD t.fd i).jO,e)) 0 t.fd.length with
 |some r=>r|none=>(fst (λi=>(nz (QO t i)).map λe=>((AD t.fq i).jO,e)) 0 t.fq.length).getD (⟨#[]⟩,0)
theorem Vh(h:LB t i=0):-1<=par t i/\par t i<i:=by grind[LB,par,AD]
theorem Mw{α β:Type}{o:Option α}{g:α->β}:o.map g=W↔o=W:=by cases o<;>simp
theorem W8(h:∀j,0<=j->j<i->LB t j=0):Ga t i:=λj d e=>Vh (h j d e)
end Go.Sf.Sc
namespace Go.Sf.Sc
open Go Go.Sf
def K9(n:Int):Bool:=(decide (0<=n))&&(decide (n<=99))
def UN(e:Bp)(n:Int):Bool:=K9 e.jo&&(decide (0<=e.jK)&&decide (e.jK<n))&&(decide (0<=e.To)&&decide (e.To<n))
def Bx(g:ff):Int:=
 if 40<g.fd.length\/80<g.fq.length then 3 else if(g.fd.any λn=>!K9 n)=X then 6 else if(g.fq.any λe=>!UN e g.fd.length)=X then 6 else 0
structure CB(g:ff):Prop where
 ji:g.fd.length<=40
 jw:g.fq.length<=80
 kind:∀n∈g.fd,0<=n/\n<=99
 fit:∀e∈g.fq,(0<=e.jo/\e.jo<=99)/\(0<=e.jK/\e.jK<g.fd.length)/\(0<=e.To/\e.To<g.fd.length)
variable{g:ff}
theorem Hi(h:Bx g=0):CB g:=by
 unfold Bx at h;split at h
 .cases h
 .split at h
  .cases h
  .split at h
   .cases h
   .rename_i m f d;refine⟨U,U,λn j=>?_,λe he=>?_⟩
    .rw[l!,m_]at f
     grind [K9]
    .rw[l!,m_]at d;have:=d e he;simp[UN,K9,l?,kY]at this;omega
def Cf(t:AE)(g:ff):Bool:=!(g.fd.any λn=>decide (t.fd.length<=n))&&!(g.fq.any λe=>decide (t.fq.length<=e.jo))
variable{t:AE}
theorem GZ(d:CB g)(h:Cf t g=X):(∀n∈g.fd,0<=n/\n<t.fd.length)/\∀e∈g.fq,0<=e.jo/\e.jo<t.fq.length:=by
 unfold Cf at h;simp[l?,kY]at h;refine⟨λn f=>?_,λe he=>?_⟩
 .have:=h.1 n f;have:=d.kind n f;omega
 .have:=h.2 e he;have:=d.fit e he;omega
structure Dm(t:AE):Prop where
 ji:t.fd.length<=12
 jw:t.fq.length<=20
 node:∀i:Int,0<=i->i<t.fd.length->LB t i=0
 edge:∀i:Int,0<=i->i<t.fq.length->QO t i=0
theorem MV(h:(CF t).2=0):Dm t:=by
 unfold CF at h;split at h
 .cases h
 .split at h
  .cases h
  .rename_i p q;have f:∀i:Int,0<=i->i<t.fd.length->LB t i=0:=by
    grind [FB,nz,PJ,Mw,CE]
   have he:∀i:Int,0<=i->i<t.fq.length->QO t i=0:=by
    split at h
    next r d=>obtain⟨i,m,o,j,_⟩:=FB d;rw[f i m o]at j;cases j
    .cases d:fst (λi=>(nz (QO t i)).map λe=>((AD t.fq i).jO,e)) 0 t.fq.length with
     |some r=>
      grind [FB,nz]
     |none=>
      grind [PJ,Mw,CE]
   exact ⟨U,U,f,he⟩
theorem Dm.par(h:Dm t):Ga t t.fd.length:=W8 h.node
variable{i:Int}
theorem Dm.ends(h:Dm t)(d:0<=i)(e:i<t.fq.length):(0<=(AD t.fq i).jK/\(AD t.fq i).jK<t.fd.length)/\(0<=(AD t.fq i).To/\(AD t.fq i).To<t.fd.length):=by
 have:=h.edge i d e
 grind [QO]
def VZ(t:AE)(a:Int):Bool:=decide (0<=a)&&decide (a<t.fd.length)
variable{a:Int}
theorem Td:VZ t a=X↔0<=a/\a<t.fd.length:=by unfold VZ;simp
def OL(t:AE)(a:Int):List jy×Int:=if(CF t).2≠0 then([],(CF t).2)else if VZ t a=X then(BG t a,0)else([],6)
theorem J1(h:CB g):Bx g=0:=by
 have:=h.ji;have:=h.jw;unfold Bx;rw[az U,az,az]
 .intro k;obtain⟨e,he,k⟩:=m?.1 k;have:=h.fit e he;simp[UN,K9]at k;omega
 .intro k;obtain⟨n,d,k⟩:=m?.1 k;have:=h.kind n d;simp[K9]at k;omega
end Go.Sf.Sc
namespace Go.Sf.Sc
open Go Go.Sf
def Ja(t:AE):Nat->Int->Fp
 |0,_=>[]|n+1,a=>if a<0 then[]else a::Ja t n (par t a)
variable{t:AE}{k:Int}
theorem WE(e:Ga t k):∀(n m:Nat)(a:Int),a<k->a<n->a<m->Ja t n a=Ja t m a
 |n,m,a,f,h,j=>by
  by_cases d:a<0
  .cases n<;>cases m<;>simp[Ja,d]
  .cases n with
   |zero=>omega|succ n=>
    cases m with
    |zero=>omega|succ m=>
     rw [Ja,Ja,az d,az d];have:=e a U f;rw[WE e n m (par t a) U U U]
def lD(t:AE)(a b:Int):Bool:=(Ja t (a+1).toNat a).any λx=>decide (b=x)
def PH(t:AE)(e f g:Int):Bool:=
 decide ((CF t).2=0)&&(VZ t f&&VZ t g)&&(decide (0<=e)&&decide (e<t.fq.length))&&(lD t f (AD t.fq e).jK&&lD t g (AD t.fq e).To)
def Yb(n:Int)(x:jm):Bool:=(((decide ((-1)<=x.Var))&&(decide (x.Var<n)))&&(decide ((-1000000)<=x.Add)))&&(decide (x.Add<=1000000))
def eU(n:Int)(x:Test):Int:=if¬x.jI=1/\¬x.jI=2 then 1 else if(Yb n x.jn&&Yb n x.jc)=X then 0 else 6
def WD(n:Int)(l:List Test):Int:=if n<0\/12<n then 6 else if 40<l.length then 3 else(fst (λi=>nz (eU n (AD l i))) 0 l.length).getD 0
def cN(t:AE)(p:hV)(node ix:Int):jy×Bool:=
 if node<0\/p.ff.fd.length<=node then(default,T)else
 let l:=(OL t (AD p.ff.fd node)).1
 if ix<0\/l.length<=ix then(default,T)else(AD l ix,X)
end Go.Sf.Sc
namespace Go.Sf
variable{σ ρ:Type}
variable{α:Type}
end Go.Sf
namespace Go.Sf.Sc
open Go Go.Sf
def fK(t:AE)(p:hV)(s:Ci):Bool:=!(cN t p s.j9 s.jy).2||decide (s.jm.Var< -1)||decide (p.jk<=s.jm.Var)||(decide (s.jm.Add< -1000000)||decide (1000000<s.jm.Add))
def af(p:hV)(v:Int):Bool:=p.jh.any λs=>decide (s.jm.Var=v)
def KX(t:AE)(p:hV):Int:=
 if (CF t).2≠0 then(CF t).2 else if Bx p.ff≠0 then Bx p.ff else if Cf t p.ff=T then 13 else
 if p.jk<0\/12<p.jk then 6 else if 10<p.jh.length\/10<p.jJ.length then 3 else
 if (p.jh.any (fK t p))=X then 6 else if WD p.jk p.jJ≠0 then WD p.jk p.jJ else
 if E4 (λv=>!af p v) 0 p.jk=X then 9 else 0
def R9(t:AE)(p:hV)(i:Int):Int:=
 let s:=AD p.jh i
 if s.j9<0\/p.ff.fd.length<=s.j9 then 6 else
 let l:=(OL t (AD p.ff.fd s.j9)).1
 if ((((((decide (s.jy<0))||(decide ((l.length:Int)<=s.jy)))||(decide (s.jm.Var<(-1))))||(decide (p.jk<=s.jm.Var)))||(decide (s.jm.Add<(-1000000))))||(decide (1000000<s.jm.Add)))=X then 6 else
 if E4 (λj=>(decide ((AD p.jh j).j9=s.j9))&&(decide ((AD p.jh j).jy=s.jy))) 0 i=X then 5 else 0
def JY(t:AE)(r:jg):Int:=
 if Bx r.jc.ff≠0 then Bx r.jc.ff else if Cf t r.jc.ff=T then 13 else
 if r.jc.jk≠r.jn.jk\/0<r.jc.jJ.length then 1 else if 10<r.jc.jh.length then 3 else
 (fst (λi=>nz (R9 t r.jc i)) 0 r.jc.jh.length).getD 0
end Go.Sf.Sc
namespace Go.Sf
def Eo(l:Fp)(v:Int):Int:=(fst (λi=>if decide (v=AD l i)=X then Y i else W) 0 l.length).getD (-1)
variable{l:Fp}{v:Int}
theorem MG(h:v∈l):0<=Eo l v/\Eo l v<l.length/\AD l (Eo l v)=v/\∀j,0<=j->j<Eo l v->AD l j≠v:=by
 unfold Eo;cases hf:fst (λi=>if decide (v=AD l i)=X then Y i else W) 0 l.length with
 |none=>
  grind [FU,CE]
 |some k=>
  grind [FB,AD]
variable{R:Int->Int->Prop}
theorem Pc(h:l.Pairwise R){i j:Int}(d:0<=i)(e:i<j)(f:j<l.length):R (AD l i) (AD l j):=by grind[nc,AD,List.getElem?_eq_getElem]
theorem PW(h:∀i j:Int,0<=i->i<j->j<l.length->R (AD l i) (AD l j)):l.Pairwise R:=by
 refine nc.2 (λi j d e f=>?_);have:=h i j U U U;unfold AD at this
 grind
end Go.Sf
namespace Go.Sf.Sc
open Go Go.Sf
def hasB(l:Fp)(v:Int):Bool:=l.any λx=>decide (v=x)
variable{l:Fp}{v:Int}
theorem C7:hasB l v=X↔v∈l:=by
 unfold hasB
 grind
def Pn(l:Fp)(n:Int):Int:=(fst (λi=>if AD l i<0\/n<=AD l i then Y 6 else if 0<i/\AD l i<=AD l (i-1)then Y 12 else W) 0 l.length).getD 0
variable{a b:Int}
theorem OS{c:Int->QQ}(d:∀i,c i≠Y 0)(h:(fst c a b).getD 0=0):∀i,a<=i->i<b->c i=W:=by
 have:fst c a b=W:=by
  cases hf:fst c a b with
  |none=>rfl|some r=>
   grind [Option.getD,FB]
 exact CE.1 this
variable{n:Int}
theorem VF(h:Pn l n=0):(∀x∈l,0<=x/\x<n)/\l.Pairwise (·<·):=by
 have q:=OS (c:=λi=>if AD l i<0\/n<=AD l i then Y 6 else if 0<i/\AD l i<=AD l (i-1)then Y 12 else W) (λi=>by
  split
  .simp
  .split<;>simp) h
 have e:∀i:Int,0<=i->i<l.length->(0<=AD l i/\AD l i<n)/\(0<i->AD l (i-1)<AD l i):=by
  intro i f p;have:=q i f p;split at this
  .cases this
  .split at this
   .cases this
   .omega
 refine ⟨λx m=>?_,PW (λi j f d o=>?_)⟩
 .obtain⟨i,s,u,rfl⟩:=FU m;exact(e i s u).1
 .obtain⟨k,w⟩:∃k:Nat,j=i+1+k:=⟨(j-i-1).toNat,U⟩;subst w;clear d
  induction k with
  |zero=>
   have:=(e (i+1) U U).2 U;rw[show i+1-1=i by omega]at this;simpa using this
  |succ k y=>
   have a:=y U;have b:=(e (i+1+((k+1:Nat):Int)) U o).2 U;rw[show i+1+((k+1:Nat):Int)-1=i+1+k by omega]at b;omega
def PQ(g:ff)(p:Az):Int:=
 if Pn p.fd g.fd.length≠0 then Pn p.fd g.fd.length else if Pn p.fq g.fq.length≠0 then Pn p.fq g.fq.length else
 (fst (λi=>if(hasB p.fd (AD g.fq (AD p.fq i)).jK&&hasB p.fd (AD g.fq (AD p.fq i)).To)=X then W else Y 14) 0 p.fq.length).getD 0
structure SG(g:ff)(p:Az):Prop where
 ji:(∀x∈p.fd,0<=x/\x<g.fd.length)/\p.fd.Pairwise (·<·)
 jw:(∀x∈p.fq,0<=x/\x<g.fq.length)/\p.fq.Pairwise (·<·)
 ends:∀x∈p.fq,(AD g.fq x).jK∈p.fd/\(AD g.fq x).To∈p.fd
variable{g:ff}
theorem Vk{p:Az}(h:PQ g p=0):SG g p:=by
 unfold PQ at h;split at h
 .omega
 .split at h
  .omega
  .rename_i m o;refine⟨VF U,VF U,λx e=>?_⟩;obtain⟨i,f,j,rfl⟩:=FU e;have:=OS (c:=λi=>if(hasB p.fd (AD g.fq (AD p.fq i)).jK&&hasB p.fd (AD g.fq (AD p.fq i)).To)=X then W else Y 14) (λi=>by
    split<;>simp) h i f j
   split at this
   next d=>rw[jP,C7,C7]at d;exact d
   .cases this
def LC(g:ff)(p:Az):Int:=if Bx g≠0 then Bx g else PQ g p
structure fD(p:Az):Prop where
 ji:p.fd.length<=1000
 jw:p.fq.length<=1000
def Qi(g:ff)(p:Az):ff:=⟨p.fd.map (AD g.fd),p.fq.map λx=>⟨(AD g.fq x).jo,Eo p.fd (AD g.fq x).jK,Eo p.fd (AD g.fq x).To⟩⟩
end Go.Sf.Sc
namespace Go.Sf.Sc
open Go Go.Sf
def OZ(a b:ff)(m:f0)(i:Int):QQ:=
 if AD m.fd i<0\/b.fd.length<=AD m.fd i then Y 6 else if AD b.fd (AD m.fd i)≠AD a.fd i then Y 13 else W
def MH(a b:ff)(m:f0)(i:Int):QQ:=
 if AD m.fq i<0\/b.fq.length<=AD m.fq i then Y 6 else
 if (AD a.fq i).jo≠(AD b.fq (AD m.fq i)).jo then Y 13 else
 if AD m.fd (AD a.fq i).jK≠(AD b.fq (AD m.fq i)).jK\/AD m.fd (AD a.fq i).To≠(AD b.fq (AD m.fq i)).To then Y 11 else W
def Mx(a b:ff)(m:f0):Int:=
 if Bx a≠0 then Bx a else if Bx b≠0 then Bx b else if m.fd.length≠a.fd.length\/m.fq.length≠a.fq.length then 20 else
 match fst (OZ a b m) 0 m.fd.length with
 |some e=>e|none=>(fst (MH a b m) 0 m.fq.length).getD 0
structure Ru(a b:ff)(m:f0):Prop where
 ga:CB a
 gb:CB b
 mo:m.fd.length=a.fd.length
 mI:m.fq.length=a.fq.length
 node:∀i:Int,0<=i->i<m.fd.length->(0<=AD m.fd i/\AD m.fd i<b.fd.length)/\AD b.fd (AD m.fd i)=AD a.fd i
 edge:∀i:Int,0<=i->i<m.fq.length->(0<=AD m.fq i/\AD m.fq i<b.fq.length)/\(AD a.fq i).jo=(AD b.fq (AD m.fq i)).jo/\
  AD m.fd (AD a.fq i).jK=(AD b.fq (AD m.fq i)).jK/\AD m.fd (AD a.fq i).To=(AD b.fq (AD m.fq i)).To
theorem da{a b:ff}{m:f0}(h:Mx a b m=0):Ru a b m:=by
 unfold Mx at h;split at h
 .omega
 split at h
 .omega
 split at h
 .cases h
 rename_i j o p;have f:fst (OZ a b m) 0 m.fd.length=W:=by
  grind [FB,OZ]
 rw [f]at h;have he:=OS (λi=>by
  grind [MH]) h
 refine ⟨Hi U,Hi U,U,U,λi d e=>?_,λi d e=>?_⟩
 .grind[CE,OZ]
 grind [MH]
def Qy(l:Fp):Bool:=!E4 (λi=>E4 (λj=>decide (AD l i=AD l j)) 0 i) 0 l.length
variable{l:Fp}
theorem Mf:Qy l=X↔l.Nodup:=by grind[Qy,l?,Gb,PW,Pc]
def Pu(m:f0):Bool:=Qy m.fd&&Qy m.fq
def Rx(r:jg):Int:=
 if LC r.jn.ff r.j5≠0 then LC r.jn.ff r.j5 else
 if Mx (Qi r.jn.ff r.j5) r.jc.ff r.jN≠0 then Mx (Qi r.jn.ff r.j5) r.jc.ff r.jN else if Pu r.jN=T then 11 else 0
variable{r:jg}
theorem Yz(h:Rx r=0):LC r.jn.ff r.j5=0/\Mx (Qi r.jn.ff r.j5) r.jc.ff r.jN=0/\Pu r.jN=X:=by grind[Rx]
def BT(l:Fp)(n:Int):Fp:=((nQ n.toNat).map Int.ofNat).filter λi=>!hasB l i
variable{i:Int}
theorem Qq(l:Fp)(h:0<=i):BT l (i+1)=BT l i++if(!hasB l i)=X then[i]else[]:=by
 unfold BT;rw[show(i+1).toNat=i.toNat+1 by omega,List.range_succ,List.map_append,List.filter_append]
 grind
theorem GT{n x:Int}(h:x∈BT l n):0<=x/\x<n:=by
 unfold BT at h
 grind
theorem RZ(l:Fp)(n:Int):(BT l n).length<=n.toNat:=by
 unfold BT
 grind
def Dx(r:jg):Fp:=BT r.jN.fd r.jc.ff.fd.length
def Md(r:jg):Fp:=BT r.jN.fq r.jc.ff.fq.length
def KS(t:AE)(g:ff)(i:Int):Bool:=PH t (AD g.fq i).jo (AD g.fd (AD g.fq i).jK) (AD g.fd (AD g.fq i).To)
def Wy(t:AE)(g:ff)(ji jw:Fp):Bool:=!(ji.any λi=>(AD t.fd (AD g.fd i)).kp)&&!(jw.any λi=>!KS t g i)
end Go.Sf.Sc
namespace Go.Sf.Sc
open Go Go.Sf
structure T6(p:hV):Prop where
 ji:p.ff.fd.length<=45
 jw:p.ff.fq.length<=90
 slots:p.jh.length<=15
 tests:p.jJ.length<=15
structure WN(m:f0):Prop where
 ji:m.fd.length<=140
 jw:m.fq.length<=140
inductive LM:gt->Prop where
 |mk (c:gt) (hq:T6 c.hV) (hm:WN c.Map) (hk:∀k∈c.jv,LM k):LM c
variable{c:gt}
theorem LM.q(h:LM c):T6 c.hV:=d?
theorem LM.m(h:LM c):WN c.Map:=d?
theorem LM.k(h:LM c):∀k∈c.jv,LM k:=d?
def UG(c:gt):Bool:=decide (c.Map.fd.length=0/\c.Map.fq.length=0/\c.hV.ff.fd.length=0/\c.hV.ff.fq.length=0/\c.hV.jh.length=0/\c.hV.jJ.length=0/\c.hV.jk=0)
def dO(c:gt):Bool:=
 if c.jI=1 then decide (c.jv.length=0)&&UG c else if c.jI=2 then decide (c.jv.length=1)&&UG c else
 if c.jI=3\/c.jI=4 then decide (1<=c.jv.length)&&UG c else if c.jI=5 then decide (c.jv.length=1)else T
def ez:Nat->gt->Bool
 |0,_=>T|n+1,c=>dO c&&c.jv.all (ez n)
noncomputable def hU(c:gt):Bool:=ez (SizeOf.sizeOf c) c
def UX:Nat->gt->Int×Int
 |0,_=>(0,0)|n+1,c=>
  let s:=c.jv.foldl (λs k=>(Ai (s.1+(UX n k).1),max s.2 (UX n k).2)) ((1,0):Int×Int)
  (s.1,if c.jI=5 then Ai (s.2+1)else s.2)
noncomputable def YM(c:gt):Int×Int:=UX (SizeOf.sizeOf c) c
noncomputable def Vv(c:gt):Int:=if hU c=T then 1 else if 12<(YM c).1\/3<(YM c).2 then 3 else 0
def aI(t:AE)(q:hV)(v:Int):Int:=if KX t q≠9 then KX t q else if E4 (λi=>!af q i) v q.jk=X then 9 else 0
def Uj:Nat->AE->hV->gt->Int
 |0,_,_,_=>0|N+1,t,p,c=>
  if c.jI=5 then
   if c.hV.jk<p.jk then 20 else if aI t c.hV p.jk≠0 then aI t c.hV p.jk else
   if Mx p.ff c.hV.ff c.Map≠0 then Mx p.ff c.hV.ff c.Map else if Pu c.Map=T then 1 else
   (fst (λi=>nz (Uj N t c.hV (AD c.jv i))) 0 c.jv.length).getD 0
  else (fst (λi=>nz (Uj N t p (AD c.jv i))) 0 c.jv.length).getD 0
noncomputable def Rv(t:AE)(p:hV)(c:gt):Int:=if KX t p≠0 then KX t p else if Vv c≠0 then Vv c else Uj (SizeOf.sizeOf c) t p c
end Go.Sf.Sc
namespace Go.Sf.Sc
open Go Go.Sf
structure ZQ(r:jg):Prop where
 name:(r.jO.size:Int)<=60
 left:T6 r.jn
 right:T6 r.jc
 jj:fD r.j5
 into:WN r.jN
 cond:LM r.gt
noncomputable def NO(t:AE)(r:jg):Int:=
 if (CF t).2≠0 then(CF t).2 else if OW r.jO=T then 2 else if KX t r.jn≠0 then KX t r.jn else
 if JY t r≠0 then JY t r else if Rx r≠0 then Rx r else if Wy t r.jc.ff (Dx r) (Md r)=T then 13 else Rv t r.jn r.gt
variable{t:AE}{r:jg}
theorem XE(h:JY t r=0):CB r.jc.ff/\Cf t r.jc.ff=X:=by grind[JY,Hi]
def eT(n:Int):Bool:=(decide (1<=n))&&(decide (n<=3))
structure gc(t:AE)(s:Ba):Prop where
 types:Dm t
 mo:s.fd.length=t.fd.length
 mI:s.fq.length=t.fq.length
def lb(t:AE)(l:Fp):Bool:=!(l.any λk=>t.fd.any λn=>decide (n.kq=k))
structure VB(t:AE)(r:jg):Prop where
 left:CB r.jn.ff
 ltyped:Cf t r.jn.ff=X
 right:CB r.jc.ff
 l5:Cf t r.jc.ff=X
 rtests:r.jc.jJ.length=0
 part:SG r.jn.ff r.j5
 mor:Ru (Qi r.jn.ff r.j5) r.jc.ff r.jN
 inj:r.jN.fd.Nodup/\r.jN.fq.Nodup
theorem ak{p:hV}(h:KX t p=0):CB p.ff/\Cf t p.ff=X:=by grind[KX,Hi]
theorem Tq(h:NO t r=0):(CF t).2=0/\VB t r:=by
 unfold NO at h;split at h
 .omega
 split at h
 .cases h
 split at h
 .omega
 split at h
 .omega
 split at h
 .omega
 rename_i j m o q s;have d:=ak (t:=t) (p:=r.jn) U;have e:=XE (t:=t) (r:=r) U;have f:=Yz (r:=r) U;have hi:Qy r.jN.fd=X/\Qy r.jN.fq=X:=by
  grind [Pu]
 refine ⟨U,d.1,d.2,e.1,e.2,?_,?_,da f.2.1,Mf.1 hi.1,Mf.1 hi.2⟩
 .grind[JY]
 grind [LC,Vk]
end Go.Sf.Sc
namespace Go.Sf
end Go.Sf
namespace Go.Sf.Sc
open Go Go.Sf
end Go.Sf.Sc
namespace Go.Sf
def Ur(q:Int->Bool)(n:Int):Fp:=((nQ n.toNat).map Int.ofNat).filter q
def ac(n:Int):Fp:=(nQ n.toNat).map Int.ofNat
end Go.Sf
namespace Go.Sf.Sc
open Go Go.Sf
def du(s:Ba)(g:ff)(sort i:Int):Bool:=decide (AD s.fd (AD g.fd i)=sort)
def dK(s:Ba)(g:ff)(sort i:Int):Bool:=decide (AD s.fq (AD g.fq i).jo=sort)
def R8(s:Ba)(g:ff)(sort:Int):Az:=⟨Ur (du s g sort) g.fd.length,Ur (dK s g sort) g.fq.length⟩
structure Sorted(s:Ba)(g:ff):Prop where
 ok:CB g
 node:∀n∈g.fd,0<=n/\n<s.fd.length
 edge:∀e∈g.fq,0<=e.jo/\e.jo<s.fq.length
def aE(k:Int):gt:=⟨k,[],⟨[],[]⟩,⟨⟨[],[]⟩,[],0,[]⟩⟩
def dx(name:ByteArray)(l r:ff)(into:f0):jg:=⟨name,⟨l,[],0,[]⟩,⟨r,[],0,[]⟩,⟨ac l.fd.length,ac l.fq.length⟩,into,X,aE 1⟩
end Go.Sf.Sc
namespace Go.Sf.Sc
open Go Go.Sf
def gK(s:Ba)(r:jg)(l:Fp)(i:Int):Bool:=!hasB r.jN.fd i&&hasB l (AD s.fd (AD r.jc.ff.fd i))
def gI(s:Ba)(r:jg)(l:Fp)(i:Int):Bool:=!hasB r.jN.fq i&&hasB l (AD s.fq (AD r.jc.ff.fq i).jo)
def gZ(s:Ba)(r:jg)(l:Fp):Fp:=Ur (gK s r l) r.jc.ff.fd.length
def gY(s:Ba)(r:jg)(l:Fp):Fp:=Ur (gI s r l) r.jc.ff.fq.length
def VP:AE:=⟨[⟨⟨#[67,108,97,115,115]⟩,-1,T,[]⟩,⟨⟨#[65,116,116,114,105,98,117,116,101]⟩,-1,T,[]⟩,⟨⟨#[84,97,98,108,101]⟩,-1,T,[]⟩,⟨⟨#[67,111,108,117,109,110]⟩,-1,T,[]⟩,⟨⟨#[77,97,112]⟩,-1,T,[]⟩],
 [⟨⟨#[104,97,115]⟩,0,1,0,-1,0,-1⟩,⟨⟨#[119,105,116,104]⟩,2,3,0,-1,0,-1⟩,⟨⟨#[111,102,67,108,97,115,115]⟩,4,0,0,-1,0,-1⟩,⟨⟨#[111,102,65,116,116,114,105,98,117,116,101]⟩,4,1,0,-1,0,-1⟩,⟨⟨#[116,111,84,97,98,108,101]⟩,4,2,0,-1,0,-1⟩,⟨⟨#[116,111,67,111,108,117,109,110]⟩,4,3,0,-1,0,-1⟩]⟩
end Go.Sf.Sc
namespace Go.Sf
end Go.Sf
namespace Go.Sf.Sc
open Go Go.Sf
end Go.Sf.Sc
namespace Go.Sf.Sc
open Go Go.Sf
end Go.Sf.Sc
namespace Go.Sf.Sc
open Go Go.Sf
end Go.Sf.Sc
namespace Go.Sf
end Go.Sf
namespace Go.Sf.Sc
open Go Go.Sf
structure G9(g:ff):Prop where
 mo:g.fd.length<=20
 mI:g.fq.length<=20
 node:∀n∈g.fd,0<=n/\n<5
 edge:∀e∈g.fq,(0<=e.jo/\e.jo<6)/\(0<=e.jK/\e.jK<g.fd.length)/\(0<=e.To/\e.To<g.fd.length)/\PH VP e.jo (AD g.fd e.jK) (AD g.fd e.To)=X
variable{g:ff}
theorem G9.e0(h:G9 g):Bx g=0:=by
 have:=h.mo;have:=h.mI;unfold Bx;rw[az U,az,az]
 .rw[l!,m_];intro e he;have:=h.edge e he;simp[UN,K9];omega
 .rw[l!,m_];intro n d;have:=h.node n d;simp[K9];omega
theorem G9.ok(h:G9 g):CB g:=Hi h.e0
theorem Tb:VP.fd.length=5/\VP.fq.length=6:=⟨rfl,rfl⟩
theorem G9.typed(h:G9 g):Cf VP g=X:=by
 unfold Cf;rw[Tb.1,Tb.2,jP,l?,l?,m_,m_];refine⟨λn d=>?_,λe he=>?_⟩
 .have:=h.node n d;simp;omega
 .have:=h.edge e he;simp;omega
structure iC(L R:ff)(m:f0):Prop where
 l:G9 L
 r:G9 R
 mo:m.fd.length=L.fd.length
 mI:m.fq.length=L.fq.length
 node:∀i:Int,0<=i->i<L.fd.length->(0<=AD m.fd i/\AD m.fd i<R.fd.length)/\AD R.fd (AD m.fd i)=AD L.fd i
 edge:∀i:Int,0<=i->i<L.fq.length->(0<=AD m.fq i/\AD m.fq i<R.fq.length)/\(AD L.fq i).jo=(AD R.fq (AD m.fq i)).jo/\
  AD m.fd (AD L.fq i).jK=(AD R.fq (AD m.fq i)).jK/\AD m.fd (AD L.fq i).To=(AD R.fq (AD m.fq i)).To
 nn:m.fd.Nodup
 ne:m.fq.Nodup
variable{i:Int}
theorem G9.fits(h:G9 g)(d:0<=i)(e:i<g.fq.length):KS VP g i=X:=(h.edge _ (CL d e)).2.2.2
end Go.Sf.Sc
namespace Go.Sf
end Go.Sf
namespace Go.Sf.Sc
open Go Go.Sf
theorem G9.nil:G9 ⟨[],[]⟩:=⟨a?,a?,V,V⟩
def Ju(x:Int):Prop:=0<=x/\x<=255
structure Yh(d:ET):Prop where
 ji:∀x∈d.fd,Ju x.a0/\Ju x.a1
 jw:∀x∈d.fq,Ju x.a0/\Ju x.a1/\Ju x.a2
instance:Inhabited Qu:=⟨⟨0,0⟩⟩
instance:Inhabited PD:=⟨⟨0,0,0⟩⟩
structure eZ(d:Fm):Prop where
 left:Yh d.jn
 ji:∀x∈d.fd,Ju x
 jw:∀x∈d.fq,Ju x.a0/\Ju x.a1/\Ju x.a2
end Go.Sf.Sc
namespace Go.Sf.Sc
open Go Go.Sf
end Go.Sf.Sc
namespace Go.Sf.Sc
open Go Go.Sf
end Go.Sf.Sc
namespace Go.Sf
end Go.Sf
namespace Go.Sf.Sc
open Go Go.Sf
end Go.Sf.Sc
namespace Go.Sf.Sc
open Go Go.Sf
end Go.Sf.Sc
