/- Plain lemmas: what the functions of the program and of the reference compute. -/
import Derived.Test.YthhobbgaejimgaaGreatDoorP125
set_option linter.all false
set_option maxRecDepth 100000
namespace Go.Sf.Sc
open Go Go.Sf
def OH(a:Int)(d:List UInt8):Int:=d.foldl (fun a b=>10*a+((b.toNat:Int)-48)) a
theorem UT(d:List UInt8)(b:UInt8):OH 0 (d++[b])=10*OH 0 d+((b.toNat:Int)-48):=by simp[OH]
theorem Tt{j:Nat}(h:j<10):(UInt8.ofNat (48+j)).toNat=48+j:=by
 rw [UInt8.toNat_ofNat'];omega
theorem jU(n:Nat):OH 0 (Go.Lib.decDigits n)=n:=by
 induction n using Nat.strongRecOn with
 |ind n a=>
  by_cases h:n<10
  .rw[I1 h];show 10*0+(((UInt8.ofNat (48+n)).toNat:Int)-48)=n;rw[Tt h];omega
  .rw[Md (by omega),UT,a (n / 10) (by omega),Tt (by omega)];omega
theorem TB:∀(d:List UInt8)(a:Int),0<=a->(∀x∈d,48<=x.toNat/\x.toNat<=57)->0<=OH a d/\OH a d+1<=(a+1)*10^ d.length
 |[],a,h,_=>by simp[OH];omega|b::d,a,h,hd=>by
  have g:=hd b (by simp);obtain⟨e,f⟩:=TB d (10*a+((b.toNat:Int)-48)) (by omega) fun x c=>hd x (by simp[c]);refine⟨e,Int.le_trans f ?_⟩;rw[ez,Int.pow_succ,Int.mul_comm (10^ d.length) 10,<-Int.mul_assoc];exact Int.mul_le_mul_of_nonneg_right (by omega) (Int.pow_nonneg (by decide))
variable{d:List UInt8}
theorem bz(hd:∀x∈d,48<=x.toNat/\x.toNat<=57)(a:d.length<=9):0<=OH 0 d/\OH 0 d<=999999999:=by
 obtain ⟨b,e⟩:=TB d 0 (Int.le_refl 0) hd;have c:(10:Int)^ d.length<=10^ 9:=by
  have:(10:Nat)^ d.length<=10^ 9:=Nat.pow_le_pow_right (by decide) a
  exact_mod_cast this
 exact ⟨b,by omega⟩
theorem Xr{n:Nat}:∀x∈Go.Lib.decDigits n,48<=x.toNat/\x.toNat<=57:=by
 intro x a;have:=(R3 n x a).1;unfold rq at this;simp at this;omega
theorem YR{p:Int->Bool}(h:∀x∈d,p (x.toNat:Int)=true):Bx p (Ao d)=d.length:=by
 obtain ⟨a0,a1,f,c⟩:=IP p (Ao d);rw[Ci]at a1 c;by_cases e:Bx p (Ao d)<d.length
 .have a:=c (by omega);have b:(Bx p (Ao d)).toNat<d.length:=by omega
  rw [JG,List.getD_eq_getElem?_getD,List.getElem?_eq_getElem b,Option.getD_some,h _ (List.getElem_mem b)]at a;cases a
 .omega
theorem SW{n:Int}(h:Nm n):LK (Ao (CR n))=n:=by
 obtain ⟨l1,l2⟩:=Er h;have hd:=R3 n.toNat
 have p:=Xr (n:=n.toNat);have c:CR n≠[]:=fun e=>by rw[e]at l1;simp at l1
 have f:0<(Ao (CR n)).size:=by rw[Ci];omega
 have j:FU (Ao (CR n))=(2,((CR n).length:Int),0):=by
  have b:Bx rq (Ao (CR n))=(CR n).length:=YR fun x a=>(hd x a).1;obtain⟨x,l,e⟩:∃x l,CR n=x::l:=by
   cases u:CR n with
   |nil=>exact absurd u c|cons x l=>exact⟨x,l,rfl⟩
  have a:=hd x (by rw[show Go.Lib.decDigits n.toNat=CR n from rfl,e];simp);have m:bt (Ao (CR n)) 0=(x.toNat:Int):=by
   rw [JG,e];rfl
  unfold FU;rw[m,bk (by rw[a.2];decide),az a.1,b,bk (by omega)]
 have he:(Ao (CR n)==(⟨#[]⟩:ByteArray))=false:=by
  apply beq_false_of_ne;intro e;rw[e]at f;exact absurd f (by decide)
 have o:DB (AY.mk 2 (Ao (CR n)) 0)=some (Ao (CR n),true):=by
  unfold DB;simp only[show decide ((2:Int)=3)=false from rfl,Bool.false_eq_true,if_false,bs];rw[he,YJ f (by rw[Ci];omega),j,Ci];simp
 have hv:Dc (Ao (CR n))=some (n,0):=by
  unfold Dc;rw[o,bs,bk (by simp),KH (g:=fun i=>OH 0 ((CR n).take i.toNat)) (by omega) (by simp[OH])]
  .rw[bs,Ci,Int.toNat_natCast,List.take_length];unfold CR;rw[jU,Int.toNat_of_nonneg h.1]
  .intro i q b;rw[Ci]at b;have hi:i.toNat<(CR n).length:=by omega
   have v:(CR n)[i.toNat]∈Go.Lib.decDigits n.toNat:=List.getElem_mem hi;have a:=p _ v;obtain⟨A,B⟩:=bz (d:=(CR n).take i.toNat) (fun x a=>p x (List.mem_of_mem_take a)) (by rw[ec];omega);have m:bt (Ao (CR n)) i=((CR n)[i.toNat].toNat:Int):=by
    rw [JG,List.getD_eq_getElem?_getD,List.getElem?_eq_getElem hi,Option.getD_some]
   have w:∀x:Int,48<=x->x<=57->AW (IntKind.u8.wrap (x-48))=x-48:=by
    intro x z x1;have e:x=48\/x=49\/x=50\/x=51\/x=52\/x=53\/x=54\/x=55\/x=56\/x=57:=by omega
    rcases e with rfl|rfl|rfl|rfl|rfl|rfl|rfl|rfl|rfl|rfl<;>rfl
   have y:(CR n).take (i+1).toNat=(CR n).take i.toNat++[(CR n)[i.toNat]]:=by
    rw [show(i+1).toNat=i.toNat+1 by omega,List.take_succ_eq_append_getElem hi]
   rw [FH q (by rw[Ci];exact b),bs,m,w _ (by omega) (by omega),BU (n:=10*_) (by omega) (by omega),BU (by omega) (by omega),y,UT]
 unfold LK;rw[hv];rfl
structure G6(l:List AY)(r:AE)(ts:List AY):Prop where
 ri:RI r
 e:r.err=0
 uc:r.l=l
 d:l.drop r.at'.toNat=ts
section
variable{l:List AY}{r:AE}{t:AY}{ts:List AY}
theorem G6.hd(h:G6 l r (t::ts)):r.at'<(l.length:Int)/\at' l r.at'=t:=by
 have a:r.at'.toNat<l.length:=by
  have:=congrArg List.length h.d;simp at this;omega
 have b:=h.d;rw[List.drop_eq_getElem_cons a]at b;have:=h.ri.uV;refine⟨by omega,?_⟩;unfold at';rw[List.getD_eq_getElem?_getD,List.getElem?_eq_getElem a];exact(List.cons.inj b).1
theorem G6.nx(h:G6 l r (t::ts))(k:Int)(s:ByteArray):D8 r k s=(decide (t.rh=k)&&(s==(⟨#[]⟩:ByteArray)||t.sn==s)):=by
 obtain ⟨a,b⟩:=h.hd;unfold D8;rw[h.e,h.uc,b];simp[a]
variable{k:Int}{s:ByteArray}
theorem G6.inc(h:G6 l r (t::ts))(a:D8 r k s=true):G6 l (Fo r) ts:=by
 have:=h.ri.uV;refine⟨SK h.ri a,h.e,h.uc,?_⟩;have e:(Fo r).at'.toNat=r.at'.toNat+1:=by
  show (r.at'+1).toNat=_;omega
 rw [e,<-List.drop_drop,h.d];rfl
theorem G6.take(h:G6 l r (t::ts))(b:(decide (t.rh=k)&&(s==(⟨#[]⟩:ByteArray)||t.sn==s))=true):GY r k s=(t.sn,Fo r)/\G6 l (Fo r) ts:=by
 have a:=h.nx k s;rw[b]at a;refine⟨?_,h.inc a⟩;unfold GY;rw[az a,h.uc,h.hd.2]
end
section
variable{l:List AY}
theorem Lz(a b:List UInt8):(Ao a==Ao b)=(a==b):=by
 rw [Bool.eq_iff_iff,beq_iff_eq,beq_iff_eq];refine⟨fun h=>?_,fun h=>by rw[h]⟩;have:=congrArg (fun x:ByteArray=>x.data.toList) h;simpa[Ao]using this
theorem Tm(rJ:Int)(sg:Bool)(qo:Int):∀(a:Fp)(r:AE)(out:Fp)(ts:List AY),PM a->(sg=false->∀n∈a,0<=n)->(out.length:Int)+a.length<=rJ->out.length+a.length<=5000->G6 l r (F4 qo (Hl a)++⟨4,Ao [41],qo⟩::ts)->∃i,F9 (Zo rJ sg) (r,out) (.inl (i,out++a))/\G6 l i (⟨4,Ao [41],qo⟩::ts)
 |[],r,out,ts,_,_,_,ho,h=>by
  have g:=dw (rJ:=rJ) (sg:=sg) h.ri (out:=out) (by simp at ho;omega);have v:G6 l r (⟨4,Ao [41],qo⟩::ts):=h;rw[v.nx,h.e]at g;refine⟨r,.brk (g.trans ?_),v⟩;rw[bk,List.append_nil];simp[Ea]
 |n::a,r,out,ts,A,B,I,ho,h=>by
  have g:=dw (rJ:=rJ) (sg:=sg) h.ri (out:=out) (by simp at ho;omega);have C:=A n (by simp);simp only[ez]at I ho;have step:∃f,WV rJ sg r out=(f,out++[n])/\G6 l f (F4 qo (Hl a)++⟨4,Ao [41],qo⟩::ts)/\D8 r 4 (⟨#[41]⟩:ByteArray)=false:=by
   by_cases w:n<0
   .have c:G6 l r (⟨4,Ao [45],qo⟩::⟨2,Ao (CR (-n)),qo⟩::(F4 qo (Hl a)++⟨4,Ao [41],qo⟩::ts)):=by
     rw [Hl,az w]at h;simpa[F4]using h
    have m:sg=true:=by
     cases sg with
     |true=>rfl|false=>have:=B rfl n (by simp);omega
    have y:D8 r 4 (⟨#[45]⟩:ByteArray)=true:=by rw[c.nx];rfl
    have b:OC sg r=true:=by unfold OC;rw[m,y];rfl
    have z:=c.inc y;have o:D8 (Fo r) 2 (⟨#[]⟩:ByteArray)=true:=by rw[z.nx];rfl
    have p:UF rJ sg r out=Fo r:=by
     unfold UF;simp only[b,if_true];rw[bk];simp only[o,Bool.true_and,sN];omega
    obtain ⟨q,u⟩:=z.take (k:=2) (s:=(⟨#[]⟩:ByteArray)) rfl;refine⟨Fo (Fo r),?_,u,?_⟩
    .unfold WV;rw[p,q,b];simp only[if_true];rw[SW ⟨by omega,by omega⟩,Int.neg_neg,BU (by omega) (by omega)]
    .rw[c.nx,Ea,Lz,Ea,Lz];rfl
   .have c:G6 l r (⟨2,Ao (CR n),qo⟩::(F4 qo (Hl a)++⟨4,Ao [41],qo⟩::ts)):=by
     rw [Hl,bk w]at h;simpa[F4]using h
    have b:OC sg r=false:=by
     unfold OC;rw[c.nx];simp
    have o:D8 r 2 (⟨#[]⟩:ByteArray)=true:=by rw[c.nx];rfl
    have p:UF rJ sg r out=r:=by
     unfold UF;simp only[b,Bool.false_eq_true,if_false];rw[bk];simp only[o,Bool.true_and,sN];omega
    obtain ⟨q,u⟩:=c.take (k:=2) (s:=(⟨#[]⟩:ByteArray)) rfl;refine⟨Fo r,?_,u,?_⟩
    .unfold WV;rw[p,q,b];simp only[Bool.false_eq_true,if_false];rw[SW ⟨by omega,by omega⟩]
    .rw[c.nx];rfl
  obtain ⟨f,D,E,F⟩:=step;obtain⟨i,G,H⟩:=Tm rJ sg qo a f (out++[n]) ts (fun x j=>A x (by simp[j])) (fun e x j=>B e x (by simp[j])) (by simp;omega) (by simp;omega) E;rw[h.e,F,D]at g;refine⟨i,.next (s':=(f,out++[n])) (g.trans rfl) (by simpa using G),H⟩
theorem QK(rJ:Int)(sg:Bool)(qo:Int){a:Fp}{r:AE}{ts:List AY}(j:PM a)(m:sg=false->∀n∈a,0<=n)(o:(a.length:Int)<=rJ)(ho:a.length<=5000)(h:G6 l r (⟨4,Ao [40],qo⟩::(F4 qo (Hl a)++⟨4,Ao [41],qo⟩::ts))):
  ∃e,Aw r rJ sg=some (a,e)/\G6 l e ts:=by
 obtain ⟨u,v⟩:=h.take (k:=4) (s:=(⟨#[40]⟩:ByteArray)) (by rw[Ea,Lz];rfl);obtain⟨g,w,i⟩:=Tm rJ sg qo a (Fo r) [] ts j m (by simpa using o) (by simpa using ho) v;obtain⟨x,y⟩:=i.take (k:=4) (s:=(⟨#[41]⟩:ByteArray)) (by rw[Ea,Lz];rfl);have q:Aw r rJ sg=(Ai r 4 (⟨#[40]⟩:ByteArray)).bind fun b=>o4 (E5 (Zo rJ sg) (b.2,[])) (fun f=>(Ai f.1 4 (⟨#[41]⟩:ByteArray)).bind fun c=>some (f.2,c.2)) (fun p=>some p):=rfl;refine⟨Fo g,?_,y⟩;rw[q,N3 h.ri,u,bs,w.eq];show(Ai g 4 (⟨#[41]⟩:ByteArray)).bind _=_;rw[N3 i.ri,x,bs];rfl
theorem aM{D:AL}{m:BW}(a:H0 m)(B:D.po.length<=5000){qo:Int}{r:AE}{ts:List AY}(h:G6 l r (F4 qo (Nt m++[(4,[59])])++ts)):∃c,Zp D r=some (.next (⟨D.rn,D.po++[m]⟩,c))/\G6 l c ts:=by
 obtain ⟨C,E,F⟩:=a.few;have f:G6 l r (⟨1,Ao [109,111,118,101],qo⟩::⟨2,Ao (CR m.ns),qo⟩::⟨4,Ao [40],qo⟩::(F4 qo (Hl m.kx.gt.fq)++⟨4,Ao [41],qo⟩::⟨4,Ao [40],qo⟩::(F4 qo (Hl m.kx.gt.jj)++⟨4,Ao [41],qo⟩::⟨4,Ao [40],qo⟩::(F4 qo (Hl m.kx.qy)++⟨4,Ao [41],qo⟩::⟨4,Ao [59],qo⟩::ts)))):=by
  simpa [F4,Nt]using h
 obtain ⟨j,g⟩:=f.take (k:=1) (s:=(⟨#[109,111,118,101]⟩:ByteArray)) (by rw[Ea,Lz];rfl);obtain⟨o,p⟩:=g.take (k:=2) (s:=(⟨#[]⟩:ByteArray)) rfl;obtain⟨G,q,u⟩:=QK 40 false qo (FT a.qz) (fun _ n b=>(a.qz n b).1) (by omega) (by omega) p;obtain⟨H,v,w⟩:=QK 80 false qo (FT a.rg) (fun _ n b=>(a.rg n b).1) (by omega) (by omega) u;obtain⟨x,y,i⟩:=QK 12 true qo a.vars (fun e=>by cases e) (by omega) (by omega) w;obtain⟨z,A⟩:=i.take (k:=4) (s:=(⟨#[59]⟩:ByteArray)) (by rw[Ea,Lz];rfl);refine⟨Fo x,?_,A⟩;unfold Zp;rw[N3 f.ri,j,bs,N2 g.ri,o,bs];simp only;rw[q,bs,v,bs,y,bs,N3 i.ri,z,bs,F6 (by simp[Br];omega),bs,SW a.rule]
theorem Rz:∀(a:List BW)(D:AL)(r:AE)(qo:Int),(∀m∈a,H0 m)->D.po.length+a.length<=30->G6 l r (NC qo a)->∃g,F9 (UE l) (D,r) (.inl (⟨D.rn,D.po++a⟩,g))/\g.err=0
 |[],D,r,qo,_,_,h=>by
  have b:¬r.at'<(l.length:Int):=by
   have c:=congrArg List.length h.d;simp[NC]at c;have:=h.ri.uV;omega
  refine ⟨r,.brk ?_,h.e⟩;unfold UE;simp[b]
 |m::a,D,r,qo,j,u,h=>by
  rw [NC]at h;simp only[ez]at u;obtain⟨i,o,b⟩:=aM (D:=D) (j m (by simp)) (by omega) h;obtain⟨p,q,c⟩:=Rz a ⟨D.rn,D.po++[m]⟩ i (qo+1) (fun x n=>j x (by simp[n])) (by simp;omega) b;have f:r.at'<(l.length:Int):=(show G6 l r (⟨1,Ao [109,111,118,101],qo⟩::_)from h).hd.1;refine⟨p,.next (s':=(⟨D.rn,D.po++[m]⟩,i)) ?_ (by simpa using q),c⟩;unfold UE;simp only;rw[az (by simp[f,h.e]),KJ h.ri,bs,bk (by simp;omega),o]
end
end Go.Sf.Sc
