/- Plain lemmas: what the functions of the program and of the reference compute. -/
import Derived.Test.YthhobbgaejimgaaGreatDoorP122
set_option linter.all false
set_option maxRecDepth 100000
namespace Go.Sf.Sc
open Go Go.Sf
def Ao(l:List UInt8):ByteArray:=⟨l.toArray⟩
theorem XQ(a b:List UInt8):Ao a++Ao b=Ao (a++b):=by
 apply ByteArray.ext;simp[Ao,ByteArray.data_append]
theorem Ci(a:List UInt8):(Ao a).size=a.length:=List.size_toArray
theorem Ea(x:Array UInt8):(⟨x⟩:ByteArray)=Ao x.toList:=rfl
theorem DI{a b:List UInt8}(h:a.length+b.length<=100000):Cy (Ao a) (Ao b)=some (Ao (a++b)):=by
 unfold Cy;rw[az (by rw[Ci,Ci];unfold Br;omega),XQ]
def CR(n:Int):List UInt8:=Go.Lib.decDigits n.toNat
theorem I1{n:Nat}(h:n<10):Go.Lib.decDigits n=[UInt8.ofNat (48+n)]:=by
 rw [Go.Lib.decDigits,dif_pos h]
theorem Md{n:Nat}(h:10<=n):Go.Lib.decDigits n=Go.Lib.decDigits (n / 10)++[UInt8.ofNat (48+n % 10)]:=by
 rw [Go.Lib.decDigits,dif_neg (by omega)]
theorem V6:∀(k n:Nat),n<10^ (k+1)->1<=(Go.Lib.decDigits n).length/\(Go.Lib.decDigits n).length<=k+1
 |0,n,h=>by
  rw [I1 (by simpa using h)];simp
 |k+1,n,h=>by
  by_cases a:n<10
  .rw[I1 a];simp
  .have:=V6 k (n / 10) (by rw[Nat.pow_succ]at h;omega);rw[Md (by omega),ci];simp;omega
def Nm(n:Int):Prop:=0<=n/\n<=999999999
variable{n:Int}
theorem Er(h:Nm n):1<=(CR n).length/\(CR n).length<=9:=V6 8 n.toNat (by have:=h.1;have:=h.2;omega)
theorem SO(h:Nm n):strconv_Itoa n=some (Ao (CR n)):=by
 have:=h.1;have:=h.2;unfold strconv_Itoa;by_cases a:n<100
 .rw[az ⟨by omega,a⟩];unfold RT;rw[<-SN _ (by omega)];rfl
 .rw[bk (by omega),az (by omega)];rfl
theorem We:∀(k:Nat)(n:Int),0<=n->n<=999999999->n.toNat<10^ (k+1)->∀m,k+2<=m->CI m n=some (Ao (CR n))
 |k,n,a,s,c,0,t=>by omega|k,n,a,s,c,m+1,t=>by
  have one:∀(x:Int)(q:Nat),0<=x->x<10->CI (q+1) x=some (Ao (CR x)):=by
   intro x q f x1;have e:x=0\/x=1\/x=2\/x=3\/x=4\/x=5\/x=6\/x=7\/x=8\/x=9:=by omega
   have hd:CR x=[UInt8.ofNat (48+x.toNat)]:=I1 (by omega);rw[CI,bk (by simpa using f),az (by simpa using x1),BU (by omega) (by omega),El f (by omega) (by show x+1<=10;omega),bs,hd];rcases e with rfl|rfl|rfl|rfl|rfl|rfl|rfl|rfl|rfl|rfl<;>rfl
  by_cases g:n<10
  .exact one n m a g
  .cases k with
   |zero=>simp at c;omega|succ k=>
    have j:quo n 10=some (n / 10):=by
     unfold quo;rw[bk (by decide),Int.tdiv_eq_ediv_of_nonneg a]
    have o:QD n 10=some (n % 10):=by
     unfold QD;rw[bk (by decide),Int.tmod_eq_emod_of_nonneg a]
    obtain ⟨m',rfl⟩:∃m',m=m'+1:=⟨m-1,by omega⟩;have h:(n / 10).toNat=n.toNat / 10:=by omega
    have b:(n % 10).toNat=n.toNat % 10:=by omega
    have p:=We k (n / 10) (by omega) (by omega) (by rw[h];rw[Nat.pow_succ]at c;omega) (m'+1) (by omega);have u:=Er (n:=n / 10) ⟨by omega,by omega⟩;have r:=Er (n:=n % 10) ⟨by omega,by omega⟩;rw[CI,bk (by simpa using a),bk (by simpa using g),j,bs,BU (by omega) (by omega),p,bs,o,bs,one (n % 10) m' (by omega) (by omega),bs,DI (by omega),bs];congr 2;unfold CR;rw[h,b,Md (n:=n.toNat) (by omega),I1 (n:=n.toNat % 10) (by omega)]
theorem O7(h:Nm n):Fr n=some (Ao (CR n)):=
 SU 10 fun m a=>We 8 n h.1 h.2 (by have:=h.1;have:=h.2;omega) m a
def II:Fp->List UInt8
 |[]=>[]|n::l=>(if n<0 then[32,45,32]++CR (-n)else 32::CR n)++II l
theorem UC(l:Fp)(n:Int):II (l++[n])=II l++(if n<0 then[32,45,32]++CR (-n)else 32::CR n):=by
 induction l with
 |nil=>simp[II]|cons x l a=>simp[II,a]
def PM(l:Fp):Prop:=∀n∈l,-999999999<=n/\n<=999999999
theorem FR:∀{l:Fp},PM l->(II l).length<=12*l.length
 |[],_=>by simp[II]|n::l,h=>by
  have b:=FR (l:=l) fun x a=>h x (by simp[a]);have c:=h n (by simp);unfold II;rw[ci,ez];split
  .have:=Er (n:=-n) ⟨by omega,by omega⟩;simp;omega
  .have:=Er (n:=n) ⟨by omega,by omega⟩;simp;omega
variable{l:Fp}{i:Int}
theorem Zl(h:PM l)(a:0<=i)(b:i<l.length):-999999999<=at' l i/\at' l i<=999999999:=h _ (B6 a b)
theorem RD(a:0<=i)(b:i<l.length):l.take (i+1).toNat=l.take i.toNat++[at' l i]:=by
 have e:(i+1).toNat=i.toNat+1:=by omega
 have hi:i.toNat<l.length:=by omega
 rw [e,List.take_succ_eq_append_getElem hi];simp[at',hi]
theorem Se(h:PM l)(k:l.length<=200):BL l=some (Ao (40::II l++[32,41])):=by
 unfold BL;rw[KH (g:=fun i=>Ao (40::II (l.take i.toNat))) (by omega) (by simp[II];rfl)]
 .have f:=FR h;simp only[bs,Int.toNat_natCast,List.take_length];rw[Ea,DI (by simp;omega)];rfl
 .intro i b c;have o:=Zl h b c;have f:=FR (l:=l.take i.toNat) fun x e=>h x (List.mem_of_mem_take e);have j:(l.take i.toNat).length<=200:=by rw[ec];omega
  rw [Ds b c,bs,RD b c,UC];by_cases a:at' l i<0
  .have hd:=Er (n:=-at' l i) ⟨by omega,by omega⟩;rw[az (by simpa using a),az a,BU (by omega) (by omega),SO ⟨by omega,by omega⟩,bs,Ea,DI (by simp;omega),bs,DI (by simp;omega),bs];simp
  .have hd:=Er (n:=at' l i) ⟨by omega,by omega⟩;rw[bk (by simpa using a),bk a,SO ⟨by omega,by omega⟩,bs,Ea,DI (by simp;omega),bs,DI (by simp;omega),bs];simp
theorem Si(h:PM l)(k:l.length<=200):Cp l=some (Ao (32::40::II l++[32,41])):=by
 unfold Cp;rw[KH (g:=fun i=>Ao (32::40::II (l.take i.toNat))) (by omega) (by simp[II];rfl)]
 .have f:=FR h;simp only[bs,Int.toNat_natCast,List.take_length];rw[Ea,DI (by simp;omega)];rfl
 .intro i b c;have o:=Zl h b c;have f:=FR (l:=l.take i.toNat) fun x e=>h x (List.mem_of_mem_take e);have j:(l.take i.toNat).length<=200:=by rw[ec];omega
  rw [Ds b c,bs,RD b c,UC];by_cases a:at' l i<0
  .have hd:=Er (n:=-at' l i) ⟨by omega,by omega⟩;rw[az (by simpa using a),az a,Ea,DI (by simp;omega),bs,bs,BU (by omega) (by omega),O7 ⟨by omega,by omega⟩,bs,DI (by simp;omega),bs];simp
  .have hd:=Er (n:=at' l i) ⟨by omega,by omega⟩;rw[bk (by simpa using a),bk a,Ea,DI (by simp;omega),bs,bs,O7 ⟨by omega,by omega⟩,bs,DI (by simp;omega),bs];simp
def Hv(m:BW):List UInt8:=[109,111,118,101,32]++CR m.ns++[32]++(40::II m.kx.gt.fq++[32,41])++[32]++(40::II m.kx.gt.jj++[32,41])++[32]++(40::II m.kx.qy++[32,41])++[32,59,10]
structure H0(m:BW):Prop where
 rule:Nm m.ns
 qz:∀n∈m.kx.gt.fq,Nm n
 rg:∀n∈m.kx.gt.jj,Nm n
 vars:PM m.kx.qy
 few:m.kx.gt.fq.length<=40/\m.kx.gt.jj.length<=80/\m.kx.qy.length<=12
variable{low:Int}
theorem Kq(h:¬Ef l low=true):∀n∈l,low<=n/\n<=999999999:=by
 intro n a;unfold Ef at h;simp only[List.any_eq_true,not_exists,not_and,Bool.or_eq_true,sN]at h;have:=h n a;omega
variable{m:BW}
theorem Qw(h:B1 m=0):H0 m:=by
 unfold B1 at h;split at h
 .exact absurd h (by decide)
 .split at h
  .exact absurd h (by decide)
  .rename_i a b;simp only[not_or]at a b;obtain⟨a1,j,k⟩:=a;obtain⟨c,e,f,g⟩:=b;exact⟨Kq c _ (by simp),Kq e,Kq f,Kq g,by omega,by omega,by omega⟩
theorem FT(h:∀n∈l,Nm n):PM l:=fun n a=>by have:=h n a;unfold Nm at this;omega
theorem bF(h:H0 m):HE m=some (Ao (Hv m)):=by
 obtain ⟨c,e,f⟩:=h.few;have a:=Er h.rule;have l1:=FR (FT h.qz);have l2:=FR (FT h.rg);have b:=FR h.vars;unfold HE;rw[SO h.rule,bs,Se (FT h.qz) (by omega),bs,Se (FT h.rg) (by omega),bs,Se h.vars (by omega),bs];simp only[Ea,XQ];rw[az (by rw[Ci];simp;omega)];rfl
theorem bB(h:H0 m):(Hv m).length<=1650:=by
 obtain ⟨c,e,f⟩:=h.few;have a:=Er h.rule;have l1:=FR (FT h.qz);have l2:=FR (FT h.rg);have b:=FR h.vars;unfold Hv;simp;omega
theorem kh:FZ l low 999999999=some (!Ef l low):=by
 unfold FZ Ef;rw[Mg (fun i=>decide (at' l i<low)||decide (999999999<at' l i)) false,cw]
 .cases DM (fun i=>decide (at' l i<low)||decide (999999999<at' l i)) 0 l.length<;>rfl
 .intro i b c _;rw[Ds b c,bs,bs];by_cases a:at' l i<low
  .simp[a]
  .simp[a];by_cases e:999999999<at' l i<;>simp[e]
noncomputable def UG[Ev](d:AL):Int->ByteArray->Option (B2 ByteArray (ByteArray×Int)):=fun(i0:Int)(s0:ByteArray)=>
 (idx d.po i0).bind fun x23=>
 (idx d.po i0).bind fun x29=>
 (idx d.po i0).bind fun x36=>
 if (((decide (40<(x29.kx.gt.fq.length:Int)))||(decide (80<(x29.kx.gt.jj.length:Int))))||(decide (12<(x36.kx.qy.length:Int))))=true then
 some (.ret ((⟨#[]⟩:ByteArray),3))
 else
 (if((decide (x23.ns<0))||(decide (999999999<x23.ns)))=true then some true else((FZ x29.kx.gt.fq 0 999999999).bind fun x64=>
 some (!x64))).bind fun x66=>
 (if x66=true then some true else((FZ x29.kx.gt.jj 0 999999999).bind fun x70=>
 some (!x70))).bind fun x72=>
 (if x72=true then some true else((FZ x36.kx.qy (-999999999) 999999999).bind fun x75=>
 some (!x75))).bind fun x77=>
 if x77=true then
 some (.ret ((⟨#[]⟩:ByteArray),6))
 else
 (Cy s0 (⟨#[109,111,118,101,32]⟩:ByteArray)).bind fun x79=>
 (Fr x23.ns).bind fun x81=>
 (Cy x79 x81).bind fun x82=>
 (Cp x29.kx.gt.fq).bind fun x85=>
 (Cy x82 x85).bind fun x86=>
 (Cp x29.kx.gt.jj).bind fun x89=>
 (Cy x86 x89).bind fun x90=>
 (Cp x36.kx.qy).bind fun x92=>
 (Cy x90 x92).bind fun x93=>
 (Cy x93 (⟨#[32,59,10]⟩:ByteArray)).bind fun x94=>
 some (.next x94)
theorem aT{α:Type}(c a b d:Bool)(X Y:Option α):((if c=true then some true else some (!!a)).bind fun e=>(if e=true then some true else some (!!b)).bind fun f=>(if f=true then some true else some (!!d)).bind fun g=>if g=true then X else Y)=if(c||a||b||d)=true then X else Y:=by
 cases c<;>cases a<;>cases b<;>cases d<;>rfl
theorem WR(m:BW)(r:List BW)(l:List UInt8):DZ (m::r) l=if B1 m=0 then(HE m).bind fun o=>DZ r (l++o.data.toList)else some ([],B1 m):=rfl
variable{d:AL}
theorem bJ{i:Nat}(f:d.po[i]?=some m){l:List UInt8}(o:l.length<=60000):UG d i (Ao l)=some (if B1 m=0 then .next (Ao (l++Hv m))else .ret (Ao [],B1 m)):=by
 have hi:i<d.po.length:=(List.getElem?_eq_some_iff.1 f).1;have e:idx d.po i=some m:=by simp[idx,f]
 unfold UG;simp only[e,bs,kh];by_cases c:40<m.kx.gt.fq.length\/80<m.kx.gt.jj.length\/12<m.kx.qy.length
 .have h:B1 m=3:=az c;rw[h,az (by simp;omega)];rfl
 .rw[bk (by simp;omega),aT];have j:Ef [m.ns] 0=(decide (m.ns<0)||decide (999999999<m.ns)):=by simp[Ef]
  rw [<-j];by_cases b:Ef [m.ns] 0=true\/Ef m.kx.gt.fq 0=true\/Ef m.kx.gt.jj 0=true\/Ef m.kx.qy (-999999999)=true
  .have k:B1 m=6:=by unfold B1;rw[bk c,az b]
   rw [k,az (by simpa[or_assoc]using b)];rfl
  .have g:B1 m=0:=by unfold B1;rw[bk c,bk b]
   have a:H0 m:=Qw g;obtain⟨r,s,t⟩:=a.few;have p:=Er a.rule;have l1:=FR (FT a.qz);have l2:=FR (FT a.rg);have q:=FR a.vars;rw[g,bk (by simpa[or_assoc]using b),az rfl];rw[Ea,DI (by simp;omega),bs,O7 a.rule,bs,DI (by simp;omega),bs,Si (FT a.qz) (by omega),bs,DI (by simp;omega),bs,Si (FT a.rg) (by omega),bs,DI (by simp;omega),bs,Si a.vars (by omega),bs,DI (by simp;omega),bs,Ea,DI (by simp;omega),bs];congr 3;unfold Hv;simp
theorem UI{d:AL}(c:d.po.length<=30):∀(n i:Nat)(l:List UInt8),i+n=d.po.length->l.length<=1650*i->∃p,DZ (d.po.drop i) l=some p/\rX (UG d) n i (Ao l)=some (if p.2=0 then .inl (Ao p.1)else .inr (Ao p.1,p.2))/\(p.2=0->(∀m∈d.po.drop i,H0 m)/\p.1=l++(d.po.drop i).flatMap Hv)
 |0,i,l,h,_=>by
  rw [List.drop_of_length_le (by omega)];exact⟨(l,0),rfl,rfl,fun _=>⟨fun m b=>(by cases b),by simp⟩⟩
 |n+1,i,l,h,t=>by
  have hi:i<d.po.length:=by omega
  have g:=bJ (d:=d) (i:=i) (List.getElem?_eq_getElem hi) (l:=l) (by omega);rw[List.drop_eq_getElem_cons hi,WR,Mf,g];by_cases a:B1 d.po[i]=0
  .have f:=Qw a;have s:=bB f;obtain⟨p,j,k,o⟩:=UI c n (i+1) (l++Hv d.po[i]) (by omega) (by rw[ci];omega);rw[az a,az a,bF f,bs];refine⟨p,j,k,fun e=>?_⟩;obtain⟨q,r⟩:=o e;refine⟨fun m b=>?_,by rw[r,List.flatMap_cons,ff]⟩;rcases List.mem_cons.1 b with rfl|b
   .exact f
   .exact q m b
  .rw[bk a,bk a];exact⟨_,rfl,by rw[bk a],fun e=>absurd e a⟩
theorem TK(d:AL):∃p,C1 d=some p/\Ez d=some p/\(p.2=0->d.po.length<=30/\(∀m∈d.po,H0 m)/\p.1=Ao (d.po.flatMap Hv)):=by
 unfold C1;by_cases h:d.po.length<=30
 .obtain⟨p,c,k,b⟩:=UI h d.po.length 0 [] (by omega) (by simp);rw[List.drop_zero]at c b;have e:Ez d=o4 (rb (UG d) 0 (d.po.length:Int) (Ao [])) (fun f=>some (f,0)) (fun g=>some g):=by
   unfold Ez;rw[bk (by simp;omega)];rfl
  have j:rb (UG d) 0 (d.po.length:Int) (Ao [])=rX (UG d) d.po.length ((0:Nat):Int) (Ao []):=by
   unfold rb;simp
  rw [az h,c,e,j,k];refine⟨(Ao p.1,p.2),rfl,?_,fun a=>⟨h,(b a).1,by rw[show(Ao p.1,p.2).1=Ao p.1 from rfl,(b a).2];simp⟩⟩;by_cases a:p.2=0
  .rw[az a];show some (Ao p.1,0)=some (Ao p.1,p.2);rw[a]
  .rw[bk a];rfl
 .rw[bk h];refine⟨_,rfl,?_,fun e=>absurd e (by decide)⟩;unfold Ez;rw[az (by simp;omega)]
end Go.Sf.Sc
