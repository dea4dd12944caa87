/- Plain lemmas: what the functions of the program and of the reference compute. -/
import Derived.Test.YtbmogdodchhhlaaGreatSfRead
import Derived.Test.YtbmogdodchhhlaaGreatFns
import Derived.Test.YtbmogdodchhhlaaGreatSfPl
set_option linter.all false
set_option maxRecDepth 100000
namespace Go.Sf
theorem Ps{ρ:Type}{d:Int->Option ρ}{r:ρ}:∀{n:Nat}{a:Int},H4 d n a=some r->∃i,a<=i/\i<a+n/\d i=some r/\∀j,a<=j->j<i->d j=none
 |0,_,h=>by cases h
 |n+1,a,h=>by
  rw [H4]at h;cases hd:d a with
  |some p=>
   grind
  |none=>
   rw [hd]at h;obtain⟨i,e,f,m,o⟩:=Ps h
   grind
variable{a b:Int}
theorem EX{ρ:Type}{d:Int->Option ρ}{r:ρ}(h:fst d a b=some r):∃i,a<=i/\i<b/\d i=some r/\∀j,a<=j->j<i->d j=none:=by
 obtain ⟨i,e,f,m,o⟩:=Ps h
 grind
def jo(p:Int->Bool)(s:ByteArray):Int:=(fst (fun i=>if p (bt s i)then none else some i) 0 s.size).getD s.size
end Go.Sf
namespace Go.Sf.Sc
open Go Go.Sf
def T1(c:Int):Bool:=((decide (97<=c))&&(decide (c<=122)))||((decide (65<=c))&&(decide (c<=90)))
def digitB(c:Int):Bool:=(decide (48<=c))&&(decide (c<=57))
def gG(c:Int):Bool:=T1 c||digitB c||decide (c=95)
def N3(s:ByteArray):Bool:=decide (0<s.size)&&T1 (bt s 0)&&decide (s.size<=20)&&decide (jo gG s=s.size)
end Go.Sf.Sc
namespace Go.Sf
variable{ρ β:Type}
def nz(e:Int):QQ:=if e=0 then none else some e
variable{kr:ρ->Option β}
theorem Wq{σ:Type}{s:σ}{k:σ->Option β}:og (some (.inl s)) k kr=k s:=rfl
variable{r:ρ}
theorem Wr{σ:Type}{k:σ->Option β}:og (some (.inr r)) k kr=kr r:=rfl
variable{a b:Int}
theorem Pt{c:Int->Int}(h:(fst (fun i=>nz (c i)) a b).getD 0=0):∀i,a<=i->i<b->c i=0:=by
 have:fst (fun i=>nz (c i)) a b=none:=by
  cases hf:fst (fun i=>nz (c i)) a b with
  |none=>rfl|some r=>
   grind [Option.getD,EX,nz]
 grind [Cu,nz]
theorem Oa{e:Int}:nz e=none↔e=0:=by grind[nz]
end Go.Sf
namespace Go.Sf.Sc
open Go Go.Sf
instance:Inhabited ri:=⟨⟨⟨#[]⟩,0,0,[]⟩⟩
instance:Inhabited Bn:=⟨⟨⟨#[]⟩,0,false,[]⟩⟩
instance:Inhabited Bv:=⟨⟨⟨#[]⟩,0,0,0,0,0,0⟩⟩
instance:Inhabited Bh:=⟨⟨0,0,0⟩⟩
instance:Inhabited Bw:=⟨⟨0,0,⟨0,0⟩⟩⟩
instance:Inhabited Test:=⟨⟨0,⟨0,0⟩,⟨0,0⟩⟩⟩
instance:Inhabited hV:=⟨⟨0,[],⟨[],[]⟩,⟨⟨[],[]⟩,[],0,[]⟩⟩⟩
structure Wy(a:ri):Prop where
 name:(a.sb.size:Int)<=40
 names:a.s7.length<=25
 each:∀x∈a.s7,(x.size:Int)<=40
structure IY(t:AB):Prop where
 rf:t.ff.length<=20
 rr:t.gt.length<=30
 name:∀n∈t.ff,(n.sb.size:Int)<=40
 attrs:∀n∈t.ff,n.sY.length<=30
 each:∀n∈t.ff,∀a∈n.sY,Wy a
 ename:∀e∈t.gt,(e.sb.size:Int)<=40
def par(t:AB)(i:Int):Int:=(AE t.ff i).sU
def JP(t:AB)(k:Int):Prop:=∀i,0<=i->i<k->-1<=par t i/\par t i<i
def CY(t:AB):Nat->Int->List ri
 |0,_=>[]|n+1,a=>if a<0 then[]else CY t n (par t a)++(AE t.ff a).sY
def BS(t:AB)(a:Int):List ri:=CY t (a+1).toNat a
variable{t:AB}{a:Int}
theorem Ph{n:Nat}(h:a<0):CY t n a=[]:=by
 cases n with
 |zero=>rfl|succ n=>rw[CY,ae h]
variable{k:Int}
theorem RC(d:JP t k):∀(n m:Nat)(a:Int),a<k->a<n->a<m->CY t n a=CY t m a
 |n,m,a,f,h,j=>by
  by_cases e:a<0
  .grind[Ph]
  .cases n with
   |zero=>omega|succ n=>
    cases m with
    |zero=>omega|succ m=>
     rw [CY,CY,az e,az e];have:=d a (by omega) f;rw[RC d n m (par t a) (by omega) (by omega) (by omega)]
theorem Pf(hf:IY t)(e:k<=t.ff.length)(d:JP t k):∀(n:Nat)(a:Int),a<k->((CY t n a).length:Int)<=30*n
 |0,_,_=>by simp[CY]|n+1,a,f=>by
  rw [CY];split
  .simp;omega
  .rename_i h;have j:=d a (by omega) f;have m:=Pf hf e d n (par t a) (by omega);have o:=hf.attrs _ (Ci (l:=t.ff) (show 0<=a by omega) (by omega))
   grind
theorem Pe(hf:IY t)(f:k<=t.ff.length)(e:JP t k):∀(n:Nat)(a:Int),a<k->∀x∈CY t n a,Wy x
 |0,_,_=>by simp[CY]|n+1,a,h=>by
  rw [CY];split
  .simp
  .rename_i j;have m:=e a (by omega) h;intro x d;rcases List.mem_append.1 d with d|d
   .exact Pe hf f e n (par t a) (by omega) x d
   .exact hf.each _ (Ci (l:=t.ff) (show 0<=a by omega) (by omega)) x d
theorem UT(hf:IY t)(d:k<=t.ff.length)(e:JP t k)(f:a<k):(BS t a).length<=600:=by
 have:=Pf hf d e (a+1).toNat a f;have:=hf.rf;unfold BS;omega
theorem US(hf:IY t)(d:k<=t.ff.length)(e:JP t k)(f:a<k):∀x∈BS t a,Wy x:=Pe hf d e _ a f
end Go.Sf.Sc
namespace Go.Sf.Sc
open Go Go.Sf
def V3(l:List ByteArray):Int:=
 if (20:Int)<l.length then 3 else(fst (fun i=>if N3 (AE l i)=false then some 2 else if Dv (fun j=>AE l j==AE l i) 0 i=true then some 5 else none) 0 l.length).getD 0
def Pd(all:List ri)(k:Int):Int:=
 let x:=AE all k
 if N3 x.sb=false then 2 else if Dv (fun j=>(AE all j).sb==x.sb) 0 k=true then 5 else
 if x.s7.length=0 then(if -1000000<=x.uk/\x.uk<=x.tl/\x.tl<=1000000 then 0 else 6)else
 if V3 x.s7≠0 then V3 x.s7 else if x.uk=0/\x.tl=x.s7.length-1 then 0 else 6
def MD(t:AB)(i:Int):Int:=
 let n:=AE t.ff i
 if N3 n.sb=false then 2 else if Dv (fun j=>(AE t.ff j).sb==n.sb) 0 i=true then 5 else
 if n.sU< -1\/i<=n.sU then 6 else if 4<n.sY.length\/8<(BS t i).length then 3 else
 (fst (fun k=>nz (Pd (BS t i) k)) ((BS t i).length-n.sY.length) (BS t i).length).getD 0
variable{t:AB}{i:Int}
theorem JP.next(h:JP t i)(e:-1<=par t i)(f:par t i<i):JP t (i+1):=by
 intro j d m;by_cases o:j=i
 .grind
 .exact h j d (by omega)
def Vl(low high:Int):Bool:=((decide (0<=low))&&(decide (low<=40)))&&((decide (high=(-1)))||((decide (low<=high))&&(decide (high<=40))))
def Pq(t:AB)(i:Int):Int:=
 let x:=AE t.gt i
 if N3 x.sb=false then 2 else if Dv (fun j=>(AE t.gt j).sb==x.sb) 0 i=true then 5 else
 if (0<=x.r9/\x.r9<t.ff.length)/\(0<=x.To/\x.To<t.ff.length)/\Vl x.uG x.ul=true/\Vl x.vc x.uH=true then 0 else 6
def CE(t:AB):ByteArray×Int:=
 if t.ff.length=0 then(⟨#[]⟩,7)else if 12<t.ff.length\/20<t.gt.length then(⟨#[]⟩,3)else
 match fst (fun i=>(nz (MD t i)).map fun e=>((AE t.ff i).sb,e)) 0 t.ff.length with
 |some r=>r|none=>(fst (fun i=>(nz (Pq t i)).map fun e=>((AE t.gt i).sb,e)) 0 t.gt.length).getD (⟨#[]⟩,0)
theorem V5(h:MD t i=0):-1<=par t i/\par t i<i:=by grind[MD,par,AE]
theorem NE{α β:Type}{o:Option α}{g:α->β}:o.map g=none↔o=none:=by cases o<;>simp
theorem Xj(h:∀j,0<=j->j<i->MD t j=0):JP t i:=fun j d e=>V5 (h j d e)
end Go.Sf.Sc
namespace Go.Sf.Sc
open Go Go.Sf
theorem bz{α:Type}{c:Bool}{a b:α}:(if c=true then some a else some b)=some (if c=true then a else b):=by cases c<;>rfl
def R1(n:Int):Bool:=(decide (0<=n))&&(decide (n<=99))
def br(e:Bh)(n:Int):Bool:=R1 e.rz&&(decide (0<=e.r9)&&decide (e.r9<n))&&(decide (0<=e.To)&&decide (e.To<n))
def CZ(g:fq):Int:=
 if 40<g.ff.length\/80<g.gt.length then 3 else if(g.ff.any fun n=>!R1 n)=true then 6 else if(g.gt.any fun e=>!br e g.ff.length)=true then 6 else 0
structure F3(g:fq):Prop where
 rf:g.ff.length<=40
 rr:g.gt.length<=80
 kind:∀n∈g.ff,0<=n/\n<=99
 fit:∀e∈g.gt,(0<=e.rz/\e.rz<=99)/\(0<=e.r9/\e.r9<g.ff.length)/\(0<=e.To/\e.To<g.ff.length)
variable{g:fq}
theorem I6(h:CZ g=0):F3 g:=by
 unfold CZ at h;split at h
 .cases h
 .split at h
  .cases h
  .split at h
   .cases h
   .rename_i m f d;refine⟨by omega,by omega,fun n j=>?_,fun e he=>?_⟩
    .rw[Bool.not_eq_true,List.any_eq_false]at f
     grind [R1]
    .rw[Bool.not_eq_true,List.any_eq_false]at d;have:=d e he;simp[br,R1,Bool.not_eq_true',tI]at this;omega
def Ed(t:AB)(g:fq):Bool:=!(g.ff.any fun n=>decide (t.ff.length<=n))&&!(g.gt.any fun e=>decide (t.gt.length<=e.rz))
variable{t:AB}
theorem I4(d:F3 g)(h:Ed t g=true):(∀n∈g.ff,0<=n/\n<t.ff.length)/\∀e∈g.gt,0<=e.rz/\e.rz<t.gt.length:=by
 unfold Ed at h;simp[Bool.not_eq_true',tI]at h;refine⟨fun n f=>?_,fun e he=>?_⟩
 .have:=h.1 n f;have:=d.kind n f;omega
 .have:=h.2 e he;have:=d.fit e he;omega
structure H0(t:AB):Prop where
 rf:t.ff.length<=12
 rr:t.gt.length<=20
 node:∀i:Int,0<=i->i<t.ff.length->MD t i=0
 edge:∀i:Int,0<=i->i<t.gt.length->Pq t i=0
theorem Oj(h:(CE t).2=0):H0 t:=by
 unfold CE at h;split at h
 .cases h
 .split at h
  .cases h
  .rename_i p q;have f:∀i:Int,0<=i->i<t.ff.length->MD t i=0:=by
    grind [EX,nz,Oa,NE,Cu]
   have he:∀i:Int,0<=i->i<t.gt.length->Pq t i=0:=by
    split at h
    .rename_i r d;obtain⟨i,m,o,j,_⟩:=EX d;rw[f i m o]at j;cases j
    .cases d:fst (fun i=>(nz (Pq t i)).map fun e=>((AE t.gt i).sb,e)) 0 t.gt.length with
     |some r=>
      grind [EX,nz]
     |none=>
      grind [Oa,NE,Cu]
   exact ⟨by omega,by omega,f,he⟩
theorem H0.par(h:H0 t):JP t t.ff.length:=Xj h.node
variable{i:Int}
theorem H0.ends(h:H0 t)(d:0<=i)(e:i<t.gt.length):(0<=(AE t.gt i).r9/\(AE t.gt i).r9<t.ff.length)/\(0<=(AE t.gt i).To/\(AE t.gt i).To<t.ff.length):=by
 have:=h.edge i d e
 grind [Pq]
def Vx(t:AB)(a:Int):Bool:=decide (0<=a)&&decide (a<t.ff.length)
variable{a:Int}
theorem Zv:Vx t a=true↔0<=a/\a<t.ff.length:=by unfold Vx;simp
def Nl(t:AB)(a:Int):List ri×Int:=if(CE t).2≠0 then([],(CE t).2)else if Vx t a=true then(BS t a,0)else([],6)
end Go.Sf.Sc
namespace Go.Sf.Sc
open Go Go.Sf
def Ws(t:AB):Nat->Int->Fp
 |0,_=>[]|n+1,a=>if a<0 then[]else a::Ws t n (par t a)
def Sj(t:AB)(a b:Int):Bool:=(Ws t (a+1).toNat a).any fun x=>decide (b=x)
def fW(t:AB)(e f g:Int):Bool:=
 decide ((CE t).2=0)&&(Vx t f&&Vx t g)&&(decide (0<=e)&&decide (e<t.gt.length))&&(Sj t f (AE t.gt e).r9&&Sj t g (AE t.gt e).To)
def SF(n:Int)(x:rg):Bool:=(((decide ((-1)<=x.Var))&&(decide (x.Var<n)))&&(decide ((-1000000)<=x.Add)))&&(decide (x.Add<=1000000))
def SG(n:Int)(x:Test):Int:=if¬x.rt=1/\¬x.rt=2 then 1 else if(SF n x.rh&&SF n x.o3)=true then 0 else 6
def Mu(n:Int)(l:List Test):Int:=if n<0\/12<n then 6 else if 40<l.length then 3 else(fst (fun i=>nz (SG n (AE l i))) 0 l.length).getD 0
def Yw(t:AB)(p:j0)(node ix:Int):ri×Bool:=
 if node<0\/p.fq.ff.length<=node then(default,false)else
 let l:=(Nl t (AE p.fq.ff node)).1
 if ix<0\/l.length<=ix then(default,false)else(AE l ix,true)
end Go.Sf.Sc
namespace Go.Sf
variable{σ ρ:Type}
variable{α:Type}
end Go.Sf
namespace Go.Sf.Sc
open Go Go.Sf
def XG(t:AB)(p:j0)(s:Bw):Bool:=!(Yw t p s.sr s.ri).2||decide (s.rg.Var< -1)||decide (p.q0<=s.rg.Var)||(decide (s.rg.Add< -1000000)||decide (1000000<s.rg.Add))
def cP(p:j0)(v:Int):Bool:=p.pq.any fun s=>decide (s.rg.Var=v)
def Je(t:AB)(p:j0):Int:=
 if (CE t).2≠0 then(CE t).2 else if CZ p.fq≠0 then CZ p.fq else if Ed t p.fq=false then 13 else
 if p.q0<0\/12<p.q0 then 6 else if 10<p.pq.length\/10<p.r8.length then 3 else
 if (p.pq.any (XG t p))=true then 6 else if Mu p.q0 p.r8≠0 then Mu p.q0 p.r8 else
 if Dv (fun v=>!cP p v) 0 p.q0=true then 9 else 0
def SD(t:AB)(p:j0)(i:Int):Int:=
 let s:=AE p.pq i
 if s.sr<0\/p.fq.ff.length<=s.sr then 6 else
 let l:=(Nl t (AE p.fq.ff s.sr)).1
 if ((((((decide (s.ri<0))||(decide ((l.length:Int)<=s.ri)))||(decide (s.rg.Var<(-1))))||(decide (p.q0<=s.rg.Var)))||(decide (s.rg.Add<(-1000000))))||(decide (1000000<s.rg.Add)))=true then 6 else
 if Dv (fun j=>(decide ((AE p.pq j).sr=s.sr))&&(decide ((AE p.pq j).ri=s.ri))) 0 i=true then 5 else 0
def Kk(t:AB)(r:o4):Int:=
 if CZ r.o3.fq≠0 then CZ r.o3.fq else if Ed t r.o3.fq=false then 13 else
 if r.o3.q0≠r.rh.q0\/0<r.o3.r8.length then 1 else if 10<r.o3.pq.length then 3 else
 (fst (fun i=>nz (SD t r.o3 i)) 0 r.o3.pq.length).getD 0
end Go.Sf.Sc
namespace Go.Sf
def Ij(l:Fp)(v:Int):Int:=(fst (fun i=>if decide (v=AE l i)=true then some i else none) 0 l.length).getD (-1)
variable{l:Fp}{v:Int}
theorem OX(h:v∈l):0<=Ij l v/\Ij l v<l.length/\AE l (Ij l v)=v/\∀j,0<=j->j<Ij l v->AE l j≠v:=by
 unfold Ij;cases hf:fst (fun i=>if decide (v=AE l i)=true then some i else none) 0 l.length with
 |none=>
  grind [Ec,Cu]
 |some k=>
  grind [EX,AE]
variable{R:Int->Int->Prop}
theorem Ow(h:l.Pairwise R){i j:Int}(d:0<=i)(e:i<j)(f:j<l.length):R (AE l i) (AE l j):=by grind[List.pairwise_iff_getElem,AE,List.getElem?_eq_getElem]
theorem Ol(h:∀i j:Int,0<=i->i<j->j<l.length->R (AE l i) (AE l j)):l.Pairwise R:=by
 refine List.pairwise_iff_getElem.2 (fun i j d e f=>?_);have:=h i j (by omega) (by omega) (by omega);unfold AE at this
 grind
end Go.Sf
namespace Go.Sf.Sc
open Go Go.Sf
def hasB(l:Fp)(v:Int):Bool:=l.any fun x=>decide (v=x)
variable{l:Fp}{v:Int}
theorem D1:hasB l v=true↔v∈l:=by
 unfold hasB
 grind
def O4(l:Fp)(n:Int):Int:=(fst (fun i=>if AE l i<0\/n<=AE l i then some 6 else if 0<i/\AE l i<=AE l (i-1)then some 12 else none) 0 l.length).getD 0
variable{a b:Int}
theorem L9{c:Int->QQ}(d:∀i,c i≠some 0)(h:(fst c a b).getD 0=0):∀i,a<=i->i<b->c i=none:=by
 have:fst c a b=none:=by
  cases hf:fst c a b with
  |none=>rfl|some r=>
   grind [Option.getD,EX]
 exact Cu.1 this
variable{n:Int}
theorem Vi(h:O4 l n=0):(∀x∈l,0<=x/\x<n)/\l.Pairwise (·<·):=by
 have q:=L9 (c:=fun i=>if AE l i<0\/n<=AE l i then some 6 else if 0<i/\AE l i<=AE l (i-1)then some 12 else none) (fun i=>by
  split
  .simp
  .split<;>simp) h
 have e:∀i:Int,0<=i->i<l.length->(0<=AE l i/\AE l i<n)/\(0<i->AE l (i-1)<AE l i):=by
  intro i f p;have:=q i f p;split at this
  .cases this
  .split at this
   .cases this
   .omega
 refine ⟨fun x m=>?_,Ol (fun i j f d o=>?_)⟩
 .obtain⟨i,s,u,rfl⟩:=Ec m;exact(e i s u).1
 .obtain⟨k,w⟩:∃k:Nat,j=i+1+k:=⟨(j-i-1).toNat,by omega⟩;subst w;clear d
  induction k with
  |zero=>
   have:=(e (i+1) (by omega) (by omega)).2 (by omega);rw[show i+1-1=i by omega]at this;simpa using this
  |succ k y=>
   have a:=y (by omega);have b:=(e (i+1+((k+1:Nat):Int)) (by omega) o).2 (by omega);rw[show i+1+((k+1:Nat):Int)-1=i+1+k by omega]at b;omega
def Og(g:fq)(p:At):Int:=
 if O4 p.ff g.ff.length≠0 then O4 p.ff g.ff.length else if O4 p.gt g.gt.length≠0 then O4 p.gt g.gt.length else
 (fst (fun i=>if(hasB p.ff (AE g.gt (AE p.gt i)).r9&&hasB p.ff (AE g.gt (AE p.gt i)).To)=true then none else some 14) 0 p.gt.length).getD 0
structure SM(g:fq)(p:At):Prop where
 rf:(∀x∈p.ff,0<=x/\x<g.ff.length)/\p.ff.Pairwise (·<·)
 rr:(∀x∈p.gt,0<=x/\x<g.gt.length)/\p.gt.Pairwise (·<·)
 ends:∀x∈p.gt,(AE g.gt x).r9∈p.ff/\(AE g.gt x).To∈p.ff
variable{g:fq}
theorem V7{p:At}(h:Og g p=0):SM g p:=by
 unfold Og at h;split at h
 .omega
 .split at h
  .omega
  .rename_i m o;refine⟨Vi (by omega),Vi (by omega),fun x e=>?_⟩;obtain⟨i,f,j,rfl⟩:=Ec e;have:=L9 (c:=fun i=>if(hasB p.ff (AE g.gt (AE p.gt i)).r9&&hasB p.ff (AE g.gt (AE p.gt i)).To)=true then none else some 14) (fun i=>by
    split<;>simp) h i f j
   split at this
   .rename_i d;rw[sc,D1,D1]at d;exact d
   .cases this
def KO(g:fq)(p:At):Int:=if CZ g≠0 then CZ g else Og g p
structure iq(p:At):Prop where
 rf:p.ff.length<=1000
 rr:p.gt.length<=1000
def QJ(g:fq)(p:At):fq:=⟨p.ff.map (AE g.ff),p.gt.map fun x=>⟨(AE g.gt x).rz,Ij p.ff (AE g.gt x).r9,Ij p.ff (AE g.gt x).To⟩⟩
end Go.Sf.Sc
namespace Go.Sf.Sc
open Go Go.Sf
def QB(a b:fq)(m:hT)(i:Int):QQ:=
 if AE m.ff i<0\/b.ff.length<=AE m.ff i then some 6 else if AE b.ff (AE m.ff i)≠AE a.ff i then some 13 else none
def Mm(a b:fq)(m:hT)(i:Int):QQ:=
 if AE m.gt i<0\/b.gt.length<=AE m.gt i then some 6 else
 if (AE a.gt i).rz≠(AE b.gt (AE m.gt i)).rz then some 13 else
 if AE m.ff (AE a.gt i).r9≠(AE b.gt (AE m.gt i)).r9\/AE m.ff (AE a.gt i).To≠(AE b.gt (AE m.gt i)).To then some 11 else none
def NF(a b:fq)(m:hT):Int:=
 if CZ a≠0 then CZ a else if CZ b≠0 then CZ b else if m.ff.length≠a.ff.length\/m.gt.length≠a.gt.length then 20 else
 match fst (QB a b m) 0 m.ff.length with
 |some e=>e|none=>(fst (Mm a b m) 0 m.gt.length).getD 0
structure Ry(a b:fq)(m:hT):Prop where
 ga:F3 a
 gb:F3 b
 uX:m.ff.length=a.ff.length
 vP:m.gt.length=a.gt.length
 node:∀i:Int,0<=i->i<m.ff.length->(0<=AE m.ff i/\AE m.ff i<b.ff.length)/\AE b.ff (AE m.ff i)=AE a.ff i
 edge:∀i:Int,0<=i->i<m.gt.length->(0<=AE m.gt i/\AE m.gt i<b.gt.length)/\(AE a.gt i).rz=(AE b.gt (AE m.gt i)).rz/\
  AE m.ff (AE a.gt i).r9=(AE b.gt (AE m.gt i)).r9/\AE m.ff (AE a.gt i).To=(AE b.gt (AE m.gt i)).To
theorem Ut{a b:fq}{m:hT}(h:NF a b m=0):Ry a b m:=by
 unfold NF at h;split at h
 .omega
 split at h
 .omega
 split at h
 .cases h
 rename_i j o p;have f:fst (QB a b m) 0 m.ff.length=none:=by
  grind [EX,QB]
 rw [f]at h;have he:=L9 (fun i=>by
  grind [Mm]) h
 refine ⟨I6 (by omega),I6 (by omega),by omega,by omega,fun i d e=>?_,fun i d e=>?_⟩
 .grind[Cu,QB]
 grind [Mm]
def QZ(l:Fp):Bool:=!Dv (fun i=>Dv (fun j=>decide (AE l i=AE l j)) 0 i) 0 l.length
variable{l:Fp}
theorem SU:QZ l=true↔l.Nodup:=by grind[QZ,Bool.not_eq_true',Ef,Ol,Ow]
def Qe(m:hT):Bool:=QZ m.ff&&QZ m.gt
def R0(r:o4):Int:=
 if KO r.rh.fq r.sA≠0 then KO r.rh.fq r.sA else
 if NF (QJ r.rh.fq r.sA) r.o3.fq r.sn≠0 then NF (QJ r.rh.fq r.sA) r.o3.fq r.sn else if Qe r.sn=false then 11 else 0
theorem Zz{r:o4}(h:R0 r=0):KO r.rh.fq r.sA=0/\NF (QJ r.rh.fq r.sA) r.o3.fq r.sn=0/\Qe r.sn=true:=by grind[R0]
def Bq(l:Fp)(n:Int):Fp:=((List.range n.toNat).map Int.ofNat).filter fun i=>!hasB l i
variable{i:Int}
theorem QO(l:Fp)(h:0<=i):Bq l (i+1)=Bq l i++if(!hasB l i)=true then[i]else[]:=by
 unfold Bq;rw[show(i+1).toNat=i.toNat+1 by omega,List.range_succ,List.map_append,List.filter_append]
 grind
theorem Kj{n x:Int}(h:x∈Bq l n):0<=x/\x<n:=by
 unfold Bq at h
 grind
theorem Rb(l:Fp)(n:Int):(Bq l n).length<=n.toNat:=by
 unfold Bq
 grind
def LZ(r:o4):Fp:=Bq r.sn.ff r.o3.fq.ff.length
def XI(r:o4):Fp:=Bq r.sn.gt r.o3.fq.gt.length
def SX(t:AB)(g:fq)(i:Int):Bool:=fW t (AE g.gt i).rz (AE g.ff (AE g.gt i).r9) (AE g.ff (AE g.gt i).To)
def jS(t:AB)(g:fq)(rf rr:Fp):Bool:=!(rf.any fun i=>(AE t.ff (AE g.ff i)).tf)&&!(rr.any fun i=>!SX t g i)
end Go.Sf.Sc
namespace Go.Sf.Sc
open Go Go.Sf
structure UL(p:j0):Prop where
 rf:p.fq.ff.length<=45
 rr:p.fq.gt.length<=90
 slots:p.pq.length<=15
 tests:p.r8.length<=15
structure Wz(m:hT):Prop where
 rf:m.ff.length<=140
 rr:m.gt.length<=140
inductive ML:hV->Prop where
 |mk (c:hV) (hq:UL c.j0) (hm:Wz c.Map) (hk:∀k∈c.rq,ML k):ML c
variable{c:hV}
theorem ML.q(h:ML c):UL c.j0:=by cases h;assumption
theorem ML.m(h:ML c):Wz c.Map:=by cases h;assumption
theorem ML.k(h:ML c):∀k∈c.rq,ML k:=by cases h;assumption
theorem X6{c k:hV}(h:k∈c.rq):SizeOf.sizeOf k<SizeOf.sizeOf c:=by
 have:=List.sizeOf_lt_of_mem h;cases c
 grind
theorem WT(c:hV):0<SizeOf.sizeOf c:=by
 cases c
 grind
def UW(c:hV):Bool:=decide (c.Map.ff.length=0/\c.Map.gt.length=0/\c.j0.fq.ff.length=0/\c.j0.fq.gt.length=0/\c.j0.pq.length=0/\c.j0.r8.length=0/\c.j0.q0=0)
def Uk(c:hV):Bool:=
 if c.rt=1 then decide (c.rq.length=0)&&UW c else if c.rt=2 then decide (c.rq.length=1)&&UW c else
 if c.rt=3\/c.rt=4 then decide (1<=c.rq.length)&&UW c else if c.rt=5 then decide (c.rq.length=1)else false
def ZR:Nat->hV->Bool
 |0,_=>false|n+1,c=>Uk c&&c.rq.all (ZR n)
noncomputable def ij(c:hV):Bool:=ZR (SizeOf.sizeOf c) c
def Us:Nat->hV->Int×Int
 |0,_=>(0,0)|n+1,c=>
  let s:=c.rq.foldl (fun s k=>(Az (s.1+(Us n k).1),max s.2 (Us n k).2)) ((1,0):Int×Int)
  (s.1,if c.rt=5 then Az (s.2+1)else s.2)
noncomputable def Y7(c:hV):Int×Int:=Us (SizeOf.sizeOf c) c
noncomputable def S9(c:hV):Int:=if ij c=false then 1 else if 12<(Y7 c).1\/3<(Y7 c).2 then 3 else 0
theorem Uj(g:fq):CZ g≠9:=by grind[CZ]
def Um(t:AB)(q:j0)(v:Int):Int:=if Je t q≠9 then Je t q else if Dv (fun i=>!cP q i) v q.q0=true then 9 else 0
def Oe:Nat->AB->j0->hV->Int
 |0,_,_,_=>0|N+1,t,p,c=>
  if c.rt=5 then
   if c.j0.q0<p.q0 then 20 else if Um t c.j0 p.q0≠0 then Um t c.j0 p.q0 else
   if NF p.fq c.j0.fq c.Map≠0 then NF p.fq c.j0.fq c.Map else if Qe c.Map=false then 1 else
   (fst (fun i=>nz (Oe N t c.j0 (AE c.rq i))) 0 c.rq.length).getD 0
  else (fst (fun i=>nz (Oe N t p (AE c.rq i))) 0 c.rq.length).getD 0
noncomputable def Pn(t:AB)(p:j0)(c:hV):Int:=if Je t p≠0 then Je t p else if S9 c≠0 then S9 c else Oe (SizeOf.sizeOf c) t p c
end Go.Sf.Sc
namespace Go.Sf.Sc
open Go Go.Sf
structure W4(r:o4):Prop where
 name:(r.sb.size:Int)<=60
 left:UL r.rh
 right:UL r.o3
 po:iq r.sA
 into:Wz r.sn
 cond:ML r.hV
noncomputable def LM(t:AB)(r:o4):Int:=
 if (CE t).2≠0 then(CE t).2 else if N3 r.sb=false then 2 else if Je t r.rh≠0 then Je t r.rh else
 if Kk t r≠0 then Kk t r else if R0 r≠0 then R0 r else if jS t r.o3.fq (LZ r) (XI r)=false then 13 else Pn t r.rh r.hV
variable{t:AB}
theorem Xr{r:o4}(h:Kk t r=0):F3 r.o3.fq/\Ed t r.o3.fq=true:=by grind[Kk,I6]
def tO(t:AB)(l:Fp):Bool:=!(l.any fun k=>t.ff.any fun n=>decide (n.sU=k))
structure Va(t:AB)(r:o4):Prop where
 left:F3 r.rh.fq
 ltyped:Ed t r.rh.fq=true
 right:F3 r.o3.fq
 u7:Ed t r.o3.fq=true
 rtests:r.o3.r8.length=0
 part:SM r.rh.fq r.sA
 mor:Ry (QJ r.rh.fq r.sA) r.o3.fq r.sn
 inj:r.sn.ff.Nodup/\r.sn.gt.Nodup
theorem cU{p:j0}(h:Je t p=0):F3 p.fq/\Ed t p.fq=true:=by grind[Je,I6]
theorem T7{r:o4}(h:LM t r=0):(CE t).2=0/\Va t r:=by
 unfold LM at h;split at h
 .omega
 split at h
 .cases h
 split at h
 .omega
 split at h
 .omega
 split at h
 .omega
 rename_i j m o q s;have d:=cU (t:=t) (p:=r.rh) (by omega);have e:=Xr (t:=t) (r:=r) (by omega);have f:=Zz (r:=r) (by omega);have hi:QZ r.sn.ff=true/\QZ r.sn.gt=true:=by
  grind [Qe]
 refine ⟨by omega,d.1,d.2,e.1,e.2,?_,?_,Ut f.2.1,SU.1 hi.1,SU.1 hi.2⟩
 .grind[Kk]
 grind [KO,V7]
end Go.Sf.Sc
namespace Go.Sf
end Go.Sf
namespace Go.Sf.Sc
open Go Go.Sf
end Go.Sf.Sc
