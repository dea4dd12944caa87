/- Plain lemmas: what the functions of the program and of the reference compute. -/
import Derived.Test.YthhobbgaejimgaaGreatDoorSfRead
import Derived.Test.YthhobbgaejimgaaGreatDoorFns
import Derived.Test.YthhobbgaejimgaaGreatDoorSfPl
set_option linter.all false
set_option maxRecDepth 100000
namespace Go.Sf
theorem Qu{ρ τ:Type}{d:Int->Option ρ}{g:ρ->τ}:∀(n:Nat)(a:Int),FN (fun i=>(d i).map g) n a=(FN d n a).map g
 |0,_=>rfl|n+1,a=>by
  rw [FN,FN];cases d a with
  |some r=>rfl|none=>exact Qu n (a+1)
variable{a b:Int}
theorem T5{ρ τ:Type}{d:Int->Option ρ}{g:ρ->τ}:fst (fun i=>(d i).map g) a b=(fst d a b).map g:=Qu _ _
theorem Pj{ρ:Type}{d:Int->Option ρ}{r:ρ}:∀{n:Nat}{a:Int},FN d n a=some r->∃i,a<=i/\i<a+n/\d i=some r/\∀j,a<=j->j<i->d j=none
 |0,_,h=>by cases h
 |n+1,a,h=>by
  rw [FN]at h;cases hd:d a with
  |some p=>
   grind
  |none=>
   rw [hd]at h;obtain⟨i,e,f,m,o⟩:=Pj h
   grind
theorem Dw{ρ:Type}{d:Int->Option ρ}{r:ρ}(h:fst d a b=some r):∃i,a<=i/\i<b/\d i=some r/\∀j,a<=j->j<i->d j=none:=by
 obtain ⟨i,e,f,m,o⟩:=Pj h
 grind
def Bx(p:Int->Bool)(s:ByteArray):Int:=(fst (fun i=>if p (bt s i)then none else some i) 0 s.size).getD s.size
theorem IP(p:Int->Bool)(s:ByteArray):0<=Bx p s/\Bx p s<=s.size/\(∀j,0<=j->j<Bx p s->p (bt s j)=true)/\(Bx p s<s.size->p (bt s (Bx p s))=false):=by
 unfold Bx;cases h:fst (fun i=>if p (bt s i)then none else some i) 0 s.size with
 |none=>
  rw [Cb]at h
  grind
 |some r=>
  grind [Dw,bt,Option.getD]
variable{s:ByteArray}
theorem Yf(h:s≠⟨#[]⟩):0<s.size:=by
 rcases Nat.eq_zero_or_pos s.size with e|e
 .exfalso;apply h;cases s with|mk d=>congr 1;exact Array.eq_empty_of_size_eq_zero e
 .exact e
end Go.Sf
namespace Go.Sf.Sc
open Go Go.Sf
def Cu(c:Int):Bool:=((decide (97<=c))&&(decide (c<=122)))||((decide (65<=c))&&(decide (c<=90)))
def rq(c:Int):Bool:=(decide (48<=c))&&(decide (c<=57))
def G5(c:Int):Bool:=Cu c||rq c||decide (c=95)
theorem Sd(c:Int):HM c=some (Cu c):=rfl
theorem QY(c:Int):Gl c=some (rq c):=rfl
theorem Sh(c:Int):HF c=some (Cu c):=rfl
theorem UH(c:Int):FY c=some (rq c):=rfl
theorem dy(c:Int):Ir c=some (G5 c):=by
 unfold Ir G5;rw[Sd,bs,QY]
 grind
variable{s:ByteArray}
theorem Ra(d:(s.size:Int)<=4611686018427387904){ok:Int->K1}{p:Int->Bool}(h:∀c,ok c=some (p c)):Dn s ok=some (Bx p s):=by
 unfold Dn;rw[UX (c:=fun i=>(if p (bt s i)then none else some i).map .inl) (a:=0) (b:=s.size) (by omega)]
 .rw[T5];unfold Bx;cases fst (fun i=>if p (bt s i)=true then none else some i) 0 s.size<;>rfl
 .grind[FH,bt,FA,BU]
 .simp
def Nr(s:ByteArray):Bool:=decide (0<s.size)&&Cu (bt s 0)&&decide (s.size<=20)&&decide (Bx G5 s=s.size)
theorem QX(l:List ByteArray)(v:ByteArray):∃k,slices_Index_string l v=some k/\(0<=k↔v∈l):=by
 unfold slices_Index_string;rw[SF (fun i=>if(v==at' l i)=true then some i else none)]
 .cases h:fst (fun i=>if(v==at' l i)=true then some i else none) 0 l.length with
  |none=>
   rw [Cb]at h;refine⟨-1,rfl,by omega,fun j=>?_⟩
   grind [DY]
  |some k=>
   obtain ⟨i,d,e,m,_⟩:=Dw h;have f:(v==at' l i)=true/\i=k:=by
    grind
   obtain ⟨f,rfl⟩:=f;refine⟨i,rfl,fun _=>?_,fun _=>d⟩
   grind [B6]
 .intro i d e _;simp only[Ds d e,bs];split<;>rfl
theorem Of(l:List ByteArray)(v:ByteArray):slices_Contains_string l v=some (l.contains v):=by
 unfold slices_Contains_string;obtain⟨k,d,e⟩:=QX l v
 grind
end Go.Sf.Sc
namespace Go.Sf
variable{ρ β:Type}
def nz(e:Int):QQ:=if e=0 then none else some e
variable{kr:ρ->Option β}
theorem XN{σ:Type}{s:σ}{k:σ->Option β}:o4 (some (.inl s)) k kr=k s:=rfl
variable{r:ρ}
theorem XO{σ:Type}{k:σ->Option β}:o4 (some (.inr r)) k kr=kr r:=rfl
variable{a b:Int}
theorem Pk{c:Int->Int}(h:(fst (fun i=>nz (c i)) a b).getD 0=0):∀i,a<=i->i<b->c i=0:=by
 have:fst (fun i=>nz (c i)) a b=none:=by
  cases hf:fst (fun i=>nz (c i)) a b with
  |none=>rfl|some r=>
   grind [Option.getD,Dw,nz]
 grind [Cb,nz]
theorem OS{e:Int}:nz e=none↔e=0:=by grind[nz]
end Go.Sf
namespace Go.Sf.Sc
open Go Go.Sf
instance:Inhabited rc:=⟨⟨⟨#[]⟩,0,0,[]⟩⟩
instance:Inhabited BO:=⟨⟨⟨#[]⟩,0,false,[]⟩⟩
instance:Inhabited Bg:=⟨⟨⟨#[]⟩,0,0,0,0,0,0⟩⟩
instance:Inhabited B0:=⟨⟨0,0,0⟩⟩
instance:Inhabited CO:=⟨⟨0,0,⟨0,0⟩⟩⟩
instance:Inhabited Test:=⟨⟨0,⟨0,0⟩,⟨0,0⟩⟩⟩
instance:Inhabited j0:=⟨⟨0,[],⟨[],[]⟩,⟨⟨[],[]⟩,[],0,[]⟩⟩⟩
structure XY(a:rc):Prop where
 name:(a.ru.size:Int)<=40
 names:a.se.length<=25
 each:∀x∈a.se,(x.size:Int)<=40
structure Hm(t:AB):Prop where
 qz:t.fq.length<=20
 rg:t.jj.length<=30
 name:∀n∈t.fq,(n.ru.size:Int)<=40
 attrs:∀n∈t.fq,n.sc.length<=30
 each:∀n∈t.fq,∀a∈n.sc,XY a
 ename:∀e∈t.jj,(e.ru.size:Int)<=40
def par(t:AB)(i:Int):Int:=(at' t.fq i).sw
def IT(t:AB)(k:Int):Prop:=∀i,0<=i->i<k->-1<=par t i/\par t i<i
def CS(t:AB):Nat->Int->List rc
 |0,_=>[]|n+1,a=>if a<0 then[]else CS t n (par t a)++(at' t.fq a).sc
def BH(t:AB)(a:Int):List rc:=CS t (a+1).toNat a
variable{t:AB}{n:Nat}{a:Int}
theorem PW(h:a<0):CS t n a=[]:=by
 cases n with
 |zero=>rfl|succ n=>rw[CS,az h]
variable{k:Int}
theorem Qe(d:IT t k):∀(n m:Nat)(a:Int),a<k->a<n->a<m->CS t n a=CS t m a
 |n,m,a,f,h,j=>by
  by_cases e:a<0
  .grind[PW]
  .cases n with
   |zero=>omega|succ n=>
    cases m with
    |zero=>omega|succ m=>
     rw [CS,CS,bk e,bk e];have:=d a (by omega) f;rw[Qe d n m (par t a) (by omega) (by omega) (by omega)]
theorem PU(hf:Hm t)(e:k<=t.fq.length)(d:IT t k):∀(n:Nat)(a:Int),a<k->((CS t n a).length:Int)<=30*n
 |0,_,_=>by simp[CS]|n+1,a,f=>by
  rw [CS];split
  .simp;omega
  .rename_i h;have j:=d a (by omega) f;have m:=PU hf e d n (par t a) (by omega);have o:=hf.attrs _ (B6 (l:=t.fq) (show 0<=a by omega) (by omega))
   grind
theorem PT(hf:Hm t)(f:k<=t.fq.length)(e:IT t k):∀(n:Nat)(a:Int),a<k->∀x∈CS t n a,XY x
 |0,_,_=>by simp[CS]|n+1,a,h=>by
  rw [CS];split
  .simp
  .rename_i j;have m:=e a (by omega) h;intro x d;rcases List.mem_append.1 d with d|d
   .exact PT hf f e n (par t a) (by omega) x d
   .exact hf.each _ (B6 (l:=t.fq) (show 0<=a by omega) (by omega)) x d
theorem Uh(hf:Hm t)(d:k<=t.fq.length)(e:IT t k)(f:a<k):(BH t a).length<=600:=by
 have:=PU hf d e (a+1).toNat a f;have:=hf.qz;unfold BH;omega
theorem Ug(hf:Hm t)(d:k<=t.fq.length)(e:IT t k)(f:a<k):∀x∈BH t a,XY x:=PT hf d e _ a f
end Go.Sf.Sc
namespace Go.Sf.Sc
open Go Go.Sf
def WT(l:List ByteArray):Int:=
 if (20:Int)<l.length then 3 else(fst (fun i=>if Nr (at' l i)=false then some 2 else if DM (fun j=>at' l j==at' l i) 0 i=true then some 5 else none) 0 l.length).getD 0
def PS(all:List rc)(k:Int):Int:=
 let x:=at' all k
 if Nr x.ru=false then 2 else if DM (fun j=>(at' all j).ru==x.ru) 0 k=true then 5 else
 if x.se.length=0 then(if -1000000<=x.tU/\x.tU<=x.sO/\x.sO<=1000000 then 0 else 6)else
 if WT x.se≠0 then WT x.se else if x.tU=0/\x.sO=x.se.length-1 then 0 else 6
def K3(t:AB)(i:Int):Int:=
 let n:=at' t.fq i
 if Nr n.ru=false then 2 else if DM (fun j=>(at' t.fq j).ru==n.ru) 0 i=true then 5 else
 if n.sw< -1\/i<=n.sw then 6 else if 4<n.sc.length\/8<(BH t i).length then 3 else
 (fst (fun k=>nz (PS (BH t i) k)) ((BH t i).length-n.sc.length) (BH t i).length).getD 0
variable{t:AB}{i:Int}
theorem IT.next(h:IT t i)(e:-1<=par t i)(f:par t i<i):IT t (i+1):=by
 intro j d m;by_cases o:j=i
 .grind
 .exact h j d (by omega)
def V3(low high:Int):Bool:=((decide (0<=low))&&(decide (low<=40)))&&((decide (high=(-1)))||((decide (low<=high))&&(decide (high<=40))))
def Pf(t:AB)(i:Int):Int:=
 let x:=at' t.jj i
 if Nr x.ru=false then 2 else if DM (fun j=>(at' t.jj j).ru==x.ru) 0 i=true then 5 else
 if (0<=x.rA/\x.rA<t.fq.length)/\(0<=x.To/\x.To<t.fq.length)/\V3 x.ug x.tI=true/\V3 x.uG x.ud=true then 0 else 6
def B9(t:AB):ByteArray×Int:=
 if t.fq.length=0 then(⟨#[]⟩,7)else if 12<t.fq.length\/20<t.jj.length then(⟨#[]⟩,3)else
 match fst (fun i=>(nz (K3 t i)).map fun e=>((at' t.fq i).ru,e)) 0 t.fq.length with
 |some r=>r|none=>(fst (fun i=>(nz (Pf t i)).map fun e=>((at' t.jj i).ru,e)) 0 t.jj.length).getD (⟨#[]⟩,0)
theorem WW(h:K3 t i=0):-1<=par t i/\par t i<i:=by grind[K3,par,at']
theorem Mq{α β:Type}{o:Option α}{g:α->β}:o.map g=none↔o=none:=by cases o<;>simp
theorem YL(h:∀j,0<=j->j<i->K3 t j=0):IT t i:=fun j d e=>WW (h j d e)
end Go.Sf.Sc
namespace Go.Sf.Sc
open Go Go.Sf
theorem dR{α:Type}{c:Bool}{a b:α}:(if c=true then some a else some b)=some (if c=true then a else b):=by cases c<;>rfl
def RW(n:Int):Bool:=(decide (0<=n))&&(decide (n<=99))
def dM(e:B0)(n:Int):Bool:=RW e.rx&&(decide (0<=e.rA)&&decide (e.rA<n))&&(decide (0<=e.To)&&decide (e.To<n))
def CT(g:hT):Int:=
 if 40<g.fq.length\/80<g.jj.length then 3 else if(g.fq.any fun n=>!RW n)=true then 6 else if(g.jj.any fun e=>!dM e g.fq.length)=true then 6 else 0
structure Ff(g:hT):Prop where
 qz:g.fq.length<=40
 rg:g.jj.length<=80
 kind:∀n∈g.fq,0<=n/\n<=99
 fit:∀e∈g.jj,(0<=e.rx/\e.rx<=99)/\(0<=e.rA/\e.rA<g.fq.length)/\(0<=e.To/\e.To<g.fq.length)
variable{g:hT}
theorem IE(h:CT g=0):Ff g:=by
 unfold CT at h;split at h
 .cases h
 .split at h
  .cases h
  .split at h
   .cases h
   .rename_i m f d;refine⟨by omega,by omega,fun n j=>?_,fun e he=>?_⟩
    .rw[Bool.not_eq_true,List.any_eq_false]at f
     grind [RW]
    .rw[Bool.not_eq_true,List.any_eq_false]at d;have:=d e he;simp[dM,RW,Bool.not_eq_true',sN]at this;omega
def Eb(t:AB)(g:hT):Bool:=!(g.fq.any fun n=>decide (t.fq.length<=n))&&!(g.jj.any fun e=>decide (t.jj.length<=e.rx))
variable{t:AB}
theorem H9(d:Ff g)(h:Eb t g=true):(∀n∈g.fq,0<=n/\n<t.fq.length)/\∀e∈g.jj,0<=e.rx/\e.rx<t.jj.length:=by
 unfold Eb at h;simp[Bool.not_eq_true',sN]at h;refine⟨fun n f=>?_,fun e he=>?_⟩
 .have:=h.1 n f;have:=d.kind n f;omega
 .have:=h.2 e he;have:=d.fit e he;omega
structure HP(t:AB):Prop where
 qz:t.fq.length<=12
 rg:t.jj.length<=20
 node:∀i:Int,0<=i->i<t.fq.length->K3 t i=0
 edge:∀i:Int,0<=i->i<t.jj.length->Pf t i=0
theorem Od(h:(B9 t).2=0):HP t:=by
 unfold B9 at h;split at h
 .cases h
 .split at h
  .cases h
  .rename_i o p;have f:∀i:Int,0<=i->i<t.fq.length->K3 t i=0:=by
    grind [Dw,nz,OS,Mq,Cb]
   have he:∀i:Int,0<=i->i<t.jj.length->Pf t i=0:=by
    split at h
    .rename_i r d;obtain⟨i,j,m,k3,_⟩:=Dw d;rw[f i j m]at k3;cases k3
    .cases d:fst (fun i=>(nz (Pf t i)).map fun e=>((at' t.jj i).ru,e)) 0 t.jj.length with
     |some r=>
      grind [Dw,nz]
     |none=>
      grind [OS,Mq,Cb]
   exact ⟨by omega,by omega,f,he⟩
theorem HP.par(h:HP t):IT t t.fq.length:=YL h.node
variable{i:Int}
theorem HP.ends(h:HP t)(d:0<=i)(e:i<t.jj.length):(0<=(at' t.jj i).rA/\(at' t.jj i).rA<t.fq.length)/\(0<=(at' t.jj i).To/\(at' t.jj i).To<t.fq.length):=by
 have:=h.edge i d e
 grind [Pf]
def WK(t:AB)(a:Int):Bool:=decide (0<=a)&&decide (a<t.fq.length)
variable{a:Int}
theorem ak:WK t a=true↔0<=a/\a<t.fq.length:=by unfold WK;simp
theorem Kh{α:Type}[Inhabited α]{l:List α}(d:0<=i)(e:i<l.length):l.take (i+1).toNat=l.take i.toNat++[at' l i]:=by
 unfold at';rw[show(i+1).toNat=i.toNat+1 by omega,List.take_add_one,List.getD_eq_getElem?_getD,List.getElem?_eq_getElem (by omega)];rfl
theorem GD{α:Type}{l:List α}(h:l.length<=Br):Am [] l=some l:=by grind[F6]
def NU(t:AB)(a:Int):List rc×Int:=if(B9 t).2≠0 then([],(B9 t).2)else if WK t a=true then(BH t a,0)else([],6)
end Go.Sf.Sc
namespace Go.Sf.Sc
open Go Go.Sf
def XR(t:AB):Nat->Int->Fp
 |0,_=>[]|n+1,a=>if a<0 then[]else a::XR t n (par t a)
def SL(t:AB)(a b:Int):Bool:=(XR t (a+1).toNat a).any fun x=>decide (b=x)
def gh(t:AB)(e f g:Int):Bool:=
 decide ((B9 t).2=0)&&(WK t f&&WK t g)&&(decide (0<=e)&&decide (e<t.jj.length))&&(SL t f (at' t.jj e).rA&&SL t g (at' t.jj e).To)
def Rk(n:Int)(x:rk):Bool:=(((decide ((-1)<=x.Var))&&(decide (x.Var<n)))&&(decide ((-1000000)<=x.Add)))&&(decide (x.Add<=1000000))
def Rl(n:Int)(x:Test):Int:=if¬x.rh=1/\¬x.rh=2 then 1 else if(Rk n x.rj&&Rk n x.pq)=true then 0 else 6
def Ly(n:Int)(l:List Test):Int:=if n<0\/12<n then 6 else if 40<l.length then 3 else(fst (fun i=>nz (Rl n (at' l i))) 0 l.length).getD 0
def ZY(t:AB)(p:j4)(node ix:Int):rc×Bool:=
 if node<0\/p.hT.fq.length<=node then(default,false)else
 let l:=(NU t (at' p.hT.fq node)).1
 if ix<0\/l.length<=ix then(default,false)else(at' l ix,true)
end Go.Sf.Sc
namespace Go.Sf
variable{σ ρ:Type}
variable{α:Type}
end Go.Sf
namespace Go.Sf.Sc
open Go Go.Sf
def Xm(t:AB)(p:j4)(s:CO):Bool:=!(ZY t p s.rU s.rc).2||decide (s.rk.Var< -1)||decide (p.qy<=s.rk.Var)||(decide (s.rk.Add< -1000000)||decide (1000000<s.rk.Add))
def dm(p:j4)(v:Int):Bool:=p.rf.any fun s=>decide (s.rk.Var=v)
def Ih(t:AB)(p:j4):Int:=
 if (B9 t).2≠0 then(B9 t).2 else if CT p.hT≠0 then CT p.hT else if Eb t p.hT=false then 13 else
 if p.qy<0\/12<p.qy then 6 else if 10<p.rf.length\/10<p.rG.length then 3 else
 if (p.rf.any (Xm t p))=true then 6 else if Ly p.qy p.rG≠0 then Ly p.qy p.rG else
 if DM (fun v=>!dm p v) 0 p.qy=true then 9 else 0
def Rh(t:AB)(p:j4)(i:Int):Int:=
 let s:=at' p.rf i
 if s.rU<0\/p.hT.fq.length<=s.rU then 6 else
 let l:=(NU t (at' p.hT.fq s.rU)).1
 if ((((((decide (s.rc<0))||(decide ((l.length:Int)<=s.rc)))||(decide (s.rk.Var<(-1))))||(decide (p.qy<=s.rk.Var)))||(decide (s.rk.Add<(-1000000))))||(decide (1000000<s.rk.Add)))=true then 6 else
 if DM (fun j=>(decide ((at' p.rf j).rU=s.rU))&&(decide ((at' p.rf j).rc=s.rc))) 0 i=true then 5 else 0
def Jk(t:AB)(r:ns):Int:=
 if CT r.pq.hT≠0 then CT r.pq.hT else if Eb t r.pq.hT=false then 13 else
 if r.pq.qy≠r.rj.qy\/0<r.pq.rG.length then 1 else if 10<r.pq.rf.length then 3 else
 (fst (fun i=>nz (Rh t r.pq i)) 0 r.pq.rf.length).getD 0
end Go.Sf.Sc
namespace Go.Sf
def Hu(l:Fp)(v:Int):Int:=(fst (fun i=>if decide (v=at' l i)=true then some i else none) 0 l.length).getD (-1)
variable{l:Fp}{v:Int}
theorem OP(h:v∈l):0<=Hu l v/\Hu l v<l.length/\at' l (Hu l v)=v/\∀j,0<=j->j<Hu l v->at' l j≠v:=by
 unfold Hu;cases hf:fst (fun i=>if decide (v=at' l i)=true then some i else none) 0 l.length with
 |none=>
  grind [DY,Cb]
 |some k=>
  grind [Dw,at']
variable{R:Int->Int->Prop}
theorem Om(h:l.Pairwise R){i j:Int}(d:0<=i)(e:i<j)(f:j<l.length):R (at' l i) (at' l j):=by grind[List.pairwise_iff_getElem,at',List.getElem?_eq_getElem]
theorem Og(h:∀i j:Int,0<=i->i<j->j<l.length->R (at' l i) (at' l j)):l.Pairwise R:=by
 refine List.pairwise_iff_getElem.2 (fun i j d e f=>?_);have:=h i j (by omega) (by omega) (by omega);unfold at' at this
 grind
end Go.Sf
namespace Go.Sf.Sc
open Go Go.Sf
def hasB(l:Fp)(v:Int):Bool:=l.any fun x=>decide (v=x)
variable{l:Fp}{v:Int}
theorem Dx:hasB l v=true↔v∈l:=by
 unfold hasB
 grind
def Ox(l:Fp)(n:Int):Int:=(fst (fun i=>if at' l i<0\/n<=at' l i then some 6 else if 0<i/\at' l i<=at' l (i-1)then some 12 else none) 0 l.length).getD 0
variable{a b:Int}
theorem Kx{c:Int->QQ}(d:∀i,c i≠some 0)(h:(fst c a b).getD 0=0):∀i,a<=i->i<b->c i=none:=by
 have:fst c a b=none:=by
  cases hf:fst c a b with
  |none=>rfl|some r=>
   grind [Option.getD,Dw]
 exact Cb.1 this
theorem V1{n:Int}(h:Ox l n=0):(∀x∈l,0<=x/\x<n)/\l.Pairwise (·<·):=by
 have q:=Kx (c:=fun i=>if at' l i<0\/n<=at' l i then some 6 else if 0<i/\at' l i<=at' l (i-1)then some 12 else none) (fun i=>by
  split
  .simp
  .split<;>simp) h
 have e:∀i:Int,0<=i->i<l.length->(0<=at' l i/\at' l i<n)/\(0<i->at' l (i-1)<at' l i):=by
  intro i f p;have:=q i f p;split at this
  .cases this
  .split at this
   .cases this
   .omega
 refine ⟨fun x m=>?_,Og (fun i j f d o=>?_)⟩
 .obtain⟨i,u,w,rfl⟩:=DY m;exact(e i u w).1
 .obtain⟨k,y⟩:∃k:Nat,j=i+1+k:=⟨(j-i-1).toNat,by omega⟩;subst y;clear d
  induction k with
  |zero=>
   have:=(e (i+1) (by omega) (by omega)).2 (by omega);rw[show i+1-1=i by omega]at this;simpa using this
  |succ k z=>
   have a:=z (by omega);have b:=(e (i+1+((k+1:Nat):Int)) (by omega) o).2 (by omega);rw[show i+1+((k+1:Nat):Int)-1=i+1+k by omega]at b;omega
def OY(g:hT)(p:Bw):Int:=
 if Ox p.fq g.fq.length≠0 then Ox p.fq g.fq.length else if Ox p.jj g.jj.length≠0 then Ox p.jj g.jj.length else
 (fst (fun i=>if(hasB p.fq (at' g.jj (at' p.jj i)).rA&&hasB p.fq (at' g.jj (at' p.jj i)).To)=true then none else some 14) 0 p.jj.length).getD 0
structure Rt(g:hT)(p:Bw):Prop where
 qz:(∀x∈p.fq,0<=x/\x<g.fq.length)/\p.fq.Pairwise (·<·)
 rg:(∀x∈p.jj,0<=x/\x<g.jj.length)/\p.jj.Pairwise (·<·)
 ends:∀x∈p.jj,(at' g.jj x).rA∈p.fq/\(at' g.jj x).To∈p.fq
variable{g:hT}
theorem WZ{p:Bw}(h:OY g p=0):Rt g p:=by
 unfold OY at h;split at h
 .omega
 .split at h
  .omega
  .rename_i m o;refine⟨V1 (by omega),V1 (by omega),fun x e=>?_⟩;obtain⟨i,f,j,rfl⟩:=DY e;have:=Kx (c:=fun i=>if(hasB p.fq (at' g.jj (at' p.jj i)).rA&&hasB p.fq (at' g.jj (at' p.jj i)).To)=true then none else some 14) (fun i=>by
    split<;>simp) h i f j
   split at this
   .rename_i d;rw[rt,Dx,Dx]at d;exact d
   .cases this
def JL(g:hT)(p:Bw):Int:=if CT g≠0 then CT g else OY g p
structure ju(p:Bw):Prop where
 qz:p.fq.length<=1000
 rg:p.jj.length<=1000
def P7(g:hT)(p:Bw):hT:=⟨p.fq.map (at' g.fq),p.jj.map fun x=>⟨(at' g.jj x).rx,Hu p.fq (at' g.jj x).rA,Hu p.fq (at' g.jj x).To⟩⟩
end Go.Sf.Sc
namespace Go.Sf.Sc
open Go Go.Sf
def Px(a b:hT)(m:gt)(i:Int):QQ:=
 if at' m.fq i<0\/b.fq.length<=at' m.fq i then some 6 else if at' b.fq (at' m.fq i)≠at' a.fq i then some 13 else none
def Ls(a b:hT)(m:gt)(i:Int):QQ:=
 if at' m.jj i<0\/b.jj.length<=at' m.jj i then some 6 else
 if (at' a.jj i).rx≠(at' b.jj (at' m.jj i)).rx then some 13 else
 if at' m.fq (at' a.jj i).rA≠(at' b.jj (at' m.jj i)).rA\/at' m.fq (at' a.jj i).To≠(at' b.jj (at' m.jj i)).To then some 11 else none
def Mr(a b:hT)(m:gt):Int:=
 if CT a≠0 then CT a else if CT b≠0 then CT b else if m.fq.length≠a.fq.length\/m.jj.length≠a.jj.length then 20 else
 match fst (Px a b m) 0 m.fq.length with
 |some e=>e|none=>(fst (Ls a b m) 0 m.jj.length).getD 0
structure RQ(a b:hT)(m:gt):Prop where
 ga:Ff a
 gb:Ff b
 uw:m.fq.length=a.fq.length
 vh:m.jj.length=a.jj.length
 node:∀i:Int,0<=i->i<m.fq.length->(0<=at' m.fq i/\at' m.fq i<b.fq.length)/\at' b.fq (at' m.fq i)=at' a.fq i
 edge:∀i:Int,0<=i->i<m.jj.length->(0<=at' m.jj i/\at' m.jj i<b.jj.length)/\(at' a.jj i).rx=(at' b.jj (at' m.jj i)).rx/\
  at' m.fq (at' a.jj i).rA=(at' b.jj (at' m.jj i)).rA/\at' m.fq (at' a.jj i).To=(at' b.jj (at' m.jj i)).To
theorem U6{a b:hT}{m:gt}(h:Mr a b m=0):RQ a b m:=by
 unfold Mr at h;split at h
 .omega
 split at h
 .omega
 split at h
 .cases h
 rename_i j o p;have f:fst (Px a b m) 0 m.fq.length=none:=by
  grind [Dw,Px]
 rw [f]at h;have he:=Kx (fun i=>by
  grind [Ls]) h
 refine ⟨IE (by omega),IE (by omega),by omega,by omega,fun i d e=>?_,fun i d e=>?_⟩
 .grind[Cb,Px]
 grind [Ls]
def QN(l:Fp):Bool:=!DM (fun i=>DM (fun j=>decide (at' l i=at' l j)) 0 i) 0 l.length
variable{l:Fp}
theorem R4:QN l=true↔l.Nodup:=by grind[QN,Bool.not_eq_true',D4,Og,Om]
def QU(m:gt):Bool:=QN m.fq&&QN m.jj
def RU(r:ns):Int:=
 if JL r.rj.hT r.sa≠0 then JL r.rj.hT r.sa else
 if Mr (P7 r.rj.hT r.sa) r.pq.hT r.rT≠0 then Mr (P7 r.rj.hT r.sa) r.pq.hT r.rT else if QU r.rT=false then 11 else 0
theorem av{r:ns}(h:RU r=0):JL r.rj.hT r.sa=0/\Mr (P7 r.rj.hT r.sa) r.pq.hT r.rT=0/\QU r.rT=true:=by grind[RU]
def Bi(l:Fp)(n:Int):Fp:=((List.range n.toNat).map Int.ofNat).filter fun i=>!hasB l i
variable{i:Int}
theorem QC(l:Fp)(h:0<=i):Bi l (i+1)=Bi l i++if(!hasB l i)=true then[i]else[]:=by
 unfold Bi;rw[show(i+1).toNat=i.toNat+1 by omega,List.range_succ,List.map_append,List.filter_append]
 grind
theorem Jj{n x:Int}(h:x∈Bi l n):0<=x/\x<n:=by
 unfold Bi at h
 grind
theorem Q7(l:Fp)(n:Int):(Bi l n).length<=n.toNat:=by
 unfold Bi
 grind
def KS(r:ns):Fp:=Bi r.rT.fq r.pq.hT.fq.length
def Xo(r:ns):Fp:=Bi r.rT.jj r.pq.hT.jj.length
def R7(t:AB)(g:hT)(i:Int):Bool:=gh t (at' g.jj i).rx (at' g.fq (at' g.jj i).rA) (at' g.fq (at' g.jj i).To)
def kS(t:AB)(g:hT)(qz rg:Fp):Bool:=!(qz.any fun i=>(at' t.fq (at' g.fq i)).sL)&&!(rg.any fun i=>!R7 t g i)
end Go.Sf.Sc
namespace Go.Sf.Sc
open Go Go.Sf
structure UZ(p:j4):Prop where
 qz:p.hT.fq.length<=45
 rg:p.hT.jj.length<=90
 slots:p.rf.length<=15
 tests:p.rG.length<=15
structure XZ(m:gt):Prop where
 qz:m.fq.length<=140
 rg:m.jj.length<=140
inductive LB:j0->Prop where
 |mk (c:j0) (hq:UZ c.j4) (hm:XZ c.Map) (hk:∀k∈c.rm,LB k):LB c
variable{c:j0}
theorem LB.q(h:LB c):UZ c.j4:=by cases h;assumption
theorem LB.m(h:LB c):XZ c.Map:=by cases h;assumption
theorem LB.k(h:LB c):∀k∈c.rm,LB k:=by cases h;assumption
theorem Ye{c k:j0}(h:k∈c.rm):SizeOf.sizeOf k<SizeOf.sizeOf c:=by
 have:=List.sizeOf_lt_of_mem h;cases c
 grind
theorem Ww(c:j0):0<SizeOf.sizeOf c:=by
 cases c
 grind
def Uk(c:j0):Bool:=decide (c.Map.fq.length=0/\c.Map.jj.length=0/\c.j4.hT.fq.length=0/\c.j4.hT.jj.length=0/\c.j4.rf.length=0/\c.j4.rG.length=0/\c.j4.qy=0)
def Uw(c:j0):Bool:=
 if c.rh=1 then decide (c.rm.length=0)&&Uk c else if c.rh=2 then decide (c.rm.length=1)&&Uk c else
 if c.rh=3\/c.rh=4 then decide (1<=c.rm.length)&&Uk c else if c.rh=5 then decide (c.rm.length=1)else false
def Z5:Nat->j0->Bool
 |0,_=>false|n+1,c=>Uw c&&c.rm.all (Z5 n)
noncomputable def jo(c:j0):Bool:=Z5 (SizeOf.sizeOf c) c
def U5:Nat->j0->Int×Int
 |0,_=>(0,0)|n+1,c=>
  let s:=c.rm.foldl (fun s k=>(AW (s.1+(U5 n k).1),max s.2 (U5 n k).2)) ((1,0):Int×Int)
  (s.1,if c.rh=5 then AW (s.2+1)else s.2)
noncomputable def Zj(c:j0):Int×Int:=U5 (SizeOf.sizeOf c) c
noncomputable def S1(c:j0):Int:=if jo c=false then 1 else if 12<(Zj c).1\/3<(Zj c).2 then 3 else 0
theorem Uv(g:hT):CT g≠9:=by grind[CT]
def Uy(t:AB)(q:j4)(v:Int):Int:=if Ih t q≠9 then Ih t q else if DM (fun i=>!dm q i) v q.qy=true then 9 else 0
def OW:Nat->AB->j4->j0->Int
 |0,_,_,_=>0|N+1,t,p,c=>
  if c.rh=5 then
   if c.j4.qy<p.qy then 20 else if Uy t c.j4 p.qy≠0 then Uy t c.j4 p.qy else
   if Mr p.hT c.j4.hT c.Map≠0 then Mr p.hT c.j4.hT c.Map else if QU c.Map=false then 1 else
   (fst (fun i=>nz (OW N t c.j4 (at' c.rm i))) 0 c.rm.length).getD 0
  else (fst (fun i=>nz (OW N t p (at' c.rm i))) 0 c.rm.length).getD 0
noncomputable def Pc(t:AB)(p:j4)(c:j0):Int:=if Ih t p≠0 then Ih t p else if S1 c≠0 then S1 c else OW (SizeOf.sizeOf c) t p c
end Go.Sf.Sc
namespace Go.Sf.Sc
open Go Go.Sf
structure Xa(r:ns):Prop where
 name:(r.ru.size:Int)<=60
 left:UZ r.rj
 right:UZ r.pq
 pr:ju r.sa
 into:XZ r.rT
 cond:LB r.j0
noncomputable def KC(t:AB)(r:ns):Int:=
 if (B9 t).2≠0 then(B9 t).2 else if Nr r.ru=false then 2 else if Ih t r.rj≠0 then Ih t r.rj else
 if Jk t r≠0 then Jk t r else if RU r≠0 then RU r else if kS t r.pq.hT (KS r) (Xo r)=false then 13 else Pc t r.rj r.j0
variable{t:AB}
theorem YP{r:ns}(h:Jk t r=0):Ff r.pq.hT/\Eb t r.pq.hT=true:=by grind[Jk,IE]
def s8(t:AB)(l:Fp):Bool:=!(l.any fun k=>t.fq.any fun n=>decide (n.sw=k))
structure Vu(t:AB)(r:ns):Prop where
 left:Ff r.rj.hT
 ltyped:Eb t r.rj.hT=true
 right:Ff r.pq.hT
 uz:Eb t r.pq.hT=true
 rtests:r.pq.rG.length=0
 part:Rt r.rj.hT r.sa
 mor:RQ (P7 r.rj.hT r.sa) r.pq.hT r.rT
 inj:r.rT.fq.Nodup/\r.rT.jj.Nodup
theorem dz{p:j4}(h:Ih t p=0):Ff p.hT/\Eb t p.hT=true:=by grind[Ih,IE]
theorem UJ{r:ns}(h:KC t r=0):(B9 t).2=0/\Vu t r:=by
 unfold KC at h;split at h
 .omega
 split at h
 .cases h
 split at h
 .omega
 split at h
 .omega
 split at h
 .omega
 rename_i j m o q u;have d:=dz (t:=t) (p:=r.rj) (by omega);have e:=YP (t:=t) (r:=r) (by omega);have f:=av (r:=r) (by omega);have hi:QN r.rT.fq=true/\QN r.rT.jj=true:=by
  grind [QU]
 refine ⟨by omega,d.1,d.2,e.1,e.2,?_,?_,U6 f.2.1,R4.1 hi.1,R4.1 hi.2⟩
 .grind[Jk]
 grind [JL,WZ]
end Go.Sf.Sc
namespace Go.Sf
variable{n:Nat}
theorem QV{α:Type}{e:α->TV}{l:List α}(h:TV.Sm (.list n (l.map e))):(l.length:Int)<=140737488351232/\∀x∈l,(e x).Sm:=by
 simp [TV.Sm]at h;refine⟨by have:=h.1;unfold reachBytes at this;omega,fun x d=>Oa.1 h.2 _ (List.mem_map.2 ⟨x,d,rfl⟩)⟩
end Go.Sf
namespace Go.Sf.Sc
open Go Go.Sf
variable{a b:Int}
theorem aY(f:0<=a)(d:a<=140737488351232)(h:0<=b)(e:b<=140737488351232):AW (a+b)=a+b:=BU (by omega) (by omega)
end Go.Sf.Sc
