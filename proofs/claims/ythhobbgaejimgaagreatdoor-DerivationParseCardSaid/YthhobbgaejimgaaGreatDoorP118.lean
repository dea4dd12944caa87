/- Plain lemmas: what the functions of the program and of the reference compute. -/
import Derived.Test.YthhobbgaejimgaaGreatDoorP117
set_option linter.all false
set_option maxRecDepth 100000
namespace Go.Sf.Sc
open Go Go.Sf
variable{S:ByteArray}{a:Int}
theorem ZH(b:S.size<=20000)(c:0<=a)(d:a<S.size)(he:(Ha (AZ S a)).2.2=0):1<=(Ha (AZ S a)).2.1/\(Ha (AZ S a)).2.1<=(AZ S a).size/\((Ha (AZ S a)).1=3->2<=(Ha (AZ S a)).2.1):=by
 obtain ⟨t,n,e,_,f,g⟩:=SV b c d;obtain⟨i,j,_,k,l,m⟩:=g (f.trans he);rw[<-i];exact⟨k,l,fun h=>m (j.trans h)⟩
theorem J0{a n:Int}(b:0<=a)(c:0<=n)(h:a+n<=S.size):rB (AZ S a) n (AZ S a).size=some (AZ S (a+n)):=by
 have d:=FU b (show a<=S.size by omega);rw[Cs c (by omega) (Int.le_refl _),V1 b c h]
theorem du(p:S.size<=20000)(h:0<=a)(j:a<S.size):Dy (ρ:=(List Ap×Int×Int)) (fun(b:Int)=>
 (if(decide (b<(S.size:Int)))=true then((rx S b).bind fun e=>
 some (!decide (e=10)))else some false).bind fun f=>
 if f=true then
 some (.next (AT (b+1)))
 else
 some (.brk b)) a=some (.inl (a+CH (fun c=>!decide (c=10)) (AZ S a))):=by
 have q:=FU h (Int.le_of_lt j);obtain⟨r,s,l,n⟩:=Hd (fun c=>!decide (c=10)) (AZ S a);generalize CH (fun c=>!decide (c=10)) (AZ S a)=m at *;have key:∀(k:Nat)(i:Int),0<=i->i+k=m->Fk (fun(b:Int)=>
   (if(decide (b<(S.size:Int)))=true then((rx S b).bind fun e=>
   some (!decide (e=10)))else some false).bind fun f=>
   if f=true then
   some (Bk.next (ρ:=(List Ap×Int×Int)) (AT (b+1)))
   else
   some (.brk b)) (a+i) (.inl (a+m)):=by
  intro k
  induction k with
  |zero=>
   intro i hi he;have:i=m:=by omega
   subst this;refine .brk ?_;by_cases d:a+i<(S.size:Int)
   .have g:=n (by omega);rw[Kd h (Int.le_of_lt j) hi d]at g;simp only[d,decide_true,if_true,Dp (show 0<=a+i by omega) d,bs];rw[g];rfl
   .simp[d]
  |succ k o=>
   intro i hi he;have d:a+i<(S.size:Int):=by omega
   have g:=l i hi (by omega);rw[Kd h (Int.le_of_lt j) hi d]at g;refine .next (s':=a+(i+1)) ?_ (o (i+1) (by omega) (by omega))
   simp only[d,decide_true,if_true,Dp (show 0<=a+i by omega) d,bs];rw[g,QQ rfl,Au (by omega) (by omega),Int.add_assoc]
 have:=(key m.toNat 0 (Int.le_refl 0) (by omega)).eq
 rwa [Int.add_zero]at this
def OH(S:ByteArray)(a:Int)(out:List Ap)(qw:Int):Bk (Int×List Ap×Int) (List Ap×Int×Int):=
 let c:=bt (AZ S a) 0
 if ¬a<S.size then .brk (a,out,qw)
 else if c=10 then .next (a+1,out,qw+1)
 else if c=32\/c=9\/c=13 then .next (a+1,out,qw)
 else if c=35 then .next (a+CH (fun c=>!decide (c=10)) (AZ S a),out,qw)
 else if(Ha (AZ S a)).2.2≠0 then .ret ([],qw,(Ha (AZ S a)).2.2)
 else if(out.length:Int)=4000 then .ret ([],qw,3)
 else .next (a+(Ha (AZ S a)).2.1,out++[⟨(Ha (AZ S a)).1,PP (AZ S a),qw⟩],qw)
def dK{σ τ ρ:Type}(g:σ->τ):Bk σ ρ->Bk τ ρ
 |.next s=>.next (g s)|.brk s=>.brk (g s)|.ret r=>.ret r
variable{x:Int×List Ap×Int}
theorem bO(e:S.size<=20000)(d:0<=a)(f:a<=S.size){out:List Ap}{qw:Int}(h:OH S a out qw=.next x):a<x.1/\x.1<=S.size/\x.2.1.length<=out.length+1/\out.length<=x.2.1.length/\(out.length<=4000->x.2.1.length<=4000)/\qw<=x.2.2/\x.2.2<=qw+1:=by
 unfold OH at h;simp only at h;split at h
 .cases h
 .rename_i b;have b:a<S.size:=by simpa using b
  have k:=FU d f;split at h
  .cases h;simp;omega
  .rename_i g;split at h
   .cases h;simp;omega
   .split at h
    .rename_i i;obtain⟨l,m⟩:=QN (p:=fun c=>!decide (c=10)) (s:=AZ S a) (by omega) (by simpa using g);cases h;simp;omega
    .split at h
     .cases h
     .rename_i he;obtain⟨n,o,_⟩:=ZH e d b (by simpa using he);split at h
      .cases h
      .rename_i j;cases h;simp;omega
noncomputable def QC[Ev]:ByteArray×List Ap×Int->Option (Bk (ByteArray×List Ap×Int) (List Ap×Int×Int)):=fun(s0:ByteArray×List Ap×Int)=>
 if (decide (0<(s0.1.size:Int)))=true then
 (rx s0.1 0).bind fun x19=>
 if (decide (x19=10))=true then
 (rB s0.1 1 s0.1.size).bind fun x26=>
 some (.next (x26,s0.2.1,AT (s0.2.2+1)))
 else
 if (((decide (x19=32))||(decide (x19=9)))||(decide (x19=13)))=true then
 (rB s0.1 1 s0.1.size).bind fun x39=>
 some (.next (x39,s0.2.1,s0.2.2))
 else
 if (decide (x19=35))=true then
 (Du s0.1 GG).bind fun x45=>
 (rB s0.1 x45 s0.1.size).bind fun x46=>
 some (.next (x46,s0.2.1,s0.2.2))
 else
 (DF s0.1).bind fun x49=>
 if (!decide (x49.2.2=0))=true then
 some (.ret ([],s0.2.2,x49.2.2))
 else
 if (decide ((s0.2.1.length:Int)=4000))=true then
 some (.ret ([],s0.2.2,3))
 else
 (rB s0.1 0 x49.2.1).bind fun x63=>
 if (decide (x49.1=3))=true then
 (rB s0.1 1 (AT (x49.2.1-1))).bind fun x69=>
 (Aj s0.2.1 [Ap.mk x49.1 x69 s0.2.2]).bind fun x76=>
 (rB s0.1 x49.2.1 s0.1.size).bind fun x79=>
 some (.next (x79,x76,s0.2.2))
 else
 (Aj s0.2.1 [Ap.mk x49.1 x63 s0.2.2]).bind fun x76=>
 (rB s0.1 x49.2.1 s0.1.size).bind fun x79=>
 some (.next (x79,x76,s0.2.2))
 else
 some (.brk (s0.1,s0.2.1,s0.2.2))
theorem kc(m:S.size<=20000)(b:0<=a)(n:a<=S.size){out:List Ap}{qw:Int}(r:-1<=qw/\qw<=20001)(ho:out.length<=4000):
  QC (AZ S a,out,qw)=some (dK (fun x=>(AZ S x.1,x.2)) (OH S a out qw)):=by
 unfold QC;have u:=FU b n;unfold OH;simp only;by_cases d:a<(S.size:Int)
 .have j:(0:Int)<(AZ S a).size:=by omega
  simp only[j,decide_true,if_true,Dp (Int.le_refl 0) j,bs,d,not_true,if_false];by_cases e:bt (AZ S a) 0=10
  .simp only[e,decide_true,if_true];rw[J0 b (by omega) (by omega),bs,Au (by omega) (by omega)];rfl
  .simp only[e,decide_false,Bool.false_eq_true,if_false];by_cases k:bt (AZ S a) 0=32\/bt (AZ S a) 0=9\/bt (AZ S a) 0=13
   .rw[QQ (by simp;rcases k with h|h|h<;>simp[h]),QQ k,J0 b (by omega) (by omega)];rfl
   .rw[a6 (by simp;grind),a6 k];by_cases f:bt (AZ S a) 0=35
    .obtain⟨v,w⟩:=QN (p:=fun c=>!decide (c=10)) (s:=AZ S a) (by omega) (by simpa using e);simp only[f,decide_true,if_true];rw[Ma (p:=fun c=>!decide (c=10)) (by omega) (show∀c,GG c=some (!decide (c=10))from fun _=>rfl),bs,J0 b (by omega) (by omega)];rfl
    .simp only[f,decide_false,Bool.false_eq_true,if_false];rw[dc (by omega) (by omega),bs];by_cases he:(Ha (AZ S a)).2.2=0
     .obtain⟨y,o,q⟩:=ZH m b d he;simp only[he,decide_true,Bool.not_true,Bool.false_eq_true,if_false,ne_eq,not_true];by_cases l:(out.length:Int)=4000
      .simp only[l,decide_true,if_true];rfl
      .simp only[l,decide_false,Bool.false_eq_true,if_false];rw[Cs (Int.le_refl 0) (by omega) o,bs];have g:∀t:Ap,Aj out [t]=some (out++[t]):=fun t=>DM (by simp[Bi];omega);by_cases i:(Ha (AZ S a)).1=3
       .have:=q i;rw[QQ (by simpa using i),Au (by omega) (by omega),Cs (by omega) (by omega) (by omega),bs,g,bs,J0 b (by omega) (by omega)];unfold PP;rw[QQ i];rfl
       .rw[a6 (by simpa using i),g,bs,J0 b (by omega) (by omega)];unfold PP;rw[a6 i];rfl
     .simp only[he,decide_false,Bool.not_false,if_true,ne_eq,not_false_iff];rfl
 .have j:¬(0:Int)<(AZ S a).size:=by omega
  simp only[j,decide_false,Bool.false_eq_true,if_false,d,not_false_iff,if_true];rfl
noncomputable def QH[Ev](S:ByteArray):List Ap×Int×Int->Option (Bk (List Ap×Int×Int) (List Ap×Int×Int)):=fun(s0:List Ap×Int×Int)=>
 if (decide (s0.2.2<(S.size:Int)))=true then
 (rx S s0.2.2).bind fun x20=>
 if (decide (x20=35))=true then
 hV (Dy (ρ:=(List Ap×Int×Int)) (fun(s2:Int)=>
 (if(decide (s2<(S.size:Int)))=true then((rx S s2).bind fun x29=>
 some (!decide (x29=10)))else some false).bind fun x31=>
 if x31=true then
 some (.next (AT (s2+1)))
 else
 some (.brk s2)) s0.2.2) (fun s2=>
 some (.next (s0.1,s0.2.1,s2))) (fun v2=>some (.ret v2))
 else
 (rx S s0.2.2).bind fun x36=>
 (Gz x36).bind fun x37=>
 if x37=true then
 (rx S s0.2.2).bind fun x40=>
 if (decide (x40=10))=true then
 some (.next (s0.1,AT (s0.2.1+1),AT (s0.2.2+1)))
 else
 some (.next (s0.1,s0.2.1,AT (s0.2.2+1)))
 else
 (FY S s0.2.2).bind fun x49=>
 if ((decide (x49.2.2=0))&&(decide ((s0.1.length:Int)=4000)))=true then
 if (!decide (3=0))=true then
 some (.ret ([],s0.2.1,3))
 else
 (Aj s0.1 [Ap.mk x49.1.qh x49.1.r7 s0.2.1]).bind fun x69=>
 some (.next (x69,s0.2.1,AT (s0.2.2+x49.2.1)))
 else
 if (!decide (x49.2.2=0))=true then
 some (.ret ([],s0.2.1,x49.2.2))
 else
 (Aj s0.1 [Ap.mk x49.1.qh x49.1.r7 s0.2.1]).bind fun x69=>
 some (.next (x69,s0.2.1,AT (s0.2.2+x49.2.1)))
 else
 some (.brk (s0.1,s0.2.1,s0.2.2))
theorem ke(k:S.size<=20000)(c:0<=a)(l:a<=S.size){out:List Ap}{qw:Int}(v:-1<=qw/\qw<=20001)(ho:out.length<=4000):
  QH S (out,qw,a)=some (dK (fun x=>(x.2.1,x.2.2,x.1)) (OH S a out qw)):=by
 unfold QH;have w:=FU c l;unfold OH;simp only;by_cases b:a<(S.size:Int)
 .have h:bt S a=bt (AZ S a) 0:=by rw[Kd c l (Int.le_refl 0) (by omega)];congr 1;omega
  simp only[b,decide_true,if_true,Dp c b,bs,h,not_true,if_false,Au (show -9223372036854775808<=a+1 by omega) (by omega),Au (show -9223372036854775808<=qw+1 by omega) (by omega)];by_cases d:bt (AZ S a) 0=35
  .simp only[d,decide_true,if_true,du k c b,hV,show¬(35:Int)=10 by decide,show¬((35:Int)=32\/(35:Int)=9\/(35:Int)=13)by decide,if_false];rfl
  .simp only[d,decide_false,Bool.false_eq_true,if_false];have i:Gz (bt (AZ S a) 0)=some (decide (bt (AZ S a) 0=32\/bt (AZ S a) 0=9\/bt (AZ S a) 0=13)||decide (bt (AZ S a) 0=10)):=by
    unfold Gz;congr 1
    grind
   rw [i,bs];by_cases f:bt (AZ S a) 0=10
   .simp only[f,decide_true,Bool.or_true,if_true];rfl
   .simp only[f,decide_false,Bool.or_false,Bool.false_eq_true,if_false];by_cases g:bt (AZ S a) 0=32\/bt (AZ S a) 0=9\/bt (AZ S a) 0=13
    .rw[QQ (by simpa using g),QQ g];rfl
    .rw[a6 (by simpa using g),a6 g];obtain⟨t,n,e,p,o,q⟩:=SV k c b;rw[p,bs];simp only[o];by_cases he:(Ha (AZ S a)).2.2=0
     .obtain⟨r,s,u,y,z,_⟩:=q (o.trans he);simp only[he,decide_true,Bool.true_and,Bool.not_true,Bool.false_eq_true,if_false,ne_eq,not_true];by_cases m:(out.length:Int)=4000
      .simp only[m,decide_true,if_true,show(!decide ((3:Int)=0))=true from rfl];rfl
      .simp only[m,decide_false,Bool.false_eq_true,if_false];have j:∀t:Ap,Aj out [t]=some (out++[t]):=fun t=>DM (by simp[Bi];omega);rw[j,bs,Au (by omega) (by omega),r,s,u];rfl
     .simp only[he,decide_false,Bool.false_and,Bool.false_eq_true,if_false,Bool.not_false,if_true,ne_eq,not_false_iff];rfl
 .simp only[b,decide_false,Bool.false_eq_true,if_false,not_false_iff,if_true];rfl
theorem ez(c:S.size<=20000){out:List Ap}{qw:Int}(h:OH S a out qw=.next x)(ho:∀t∈out,t.r7.size<=20000):∀t∈x.2.1,t.r7.size<=20000:=by
 unfold OH at h;simp only at h;split at h
 .cases h
 .split at h
  .cases h;exact ho
  .split at h
   .cases h;exact ho
   .split at h
    .cases h;exact ho
    .split at h
     .cases h
     .split at h
      .cases h
      .cases h;intro t b;rcases List.mem_append.1 b with b|b
       .exact ho t b
       .rw[List.mem_singleton.1 b];show(PP (AZ S a)).size<=20000;unfold PP AZ;split<;>simp only[ByteArray.size_extract]<;>omega
theorem S2(f:S.size<=20000):∃v,E8 S=some v/\E0 S=some v/\v.1.length<=4000/\∀t∈v.1,t.r7.size<=20000:=by
 have key:∀(m:Nat)(a:Int)(out:List Ap)(qw:Int),0<=a->a+m=S.size->0<=qw->qw<=a+1->out.length<=4000->(∀t∈out,t.r7.size<=20000)->∃o:(Int×List Ap×Int) ⊕ (List Ap×Int×Int),
   Fk QC (AZ S a,out,qw) (match o with|.inl x=>.inl (AZ S x.1,x.2)|.inr v=>.inr v)/\Fk (QH S) (out,qw,a) (match o with|.inl x=>.inl (x.2.1,x.2.2,x.1)|.inr v=>.inr v)/\(match o with|.inl x=>x.2.1.length<=4000/\∀t∈x.2.1,t.r7.size<=20000|.inr v=>v.1.length<=4000/\∀t∈v.1,t.r7.size<=20000):=by
  intro m
  induction m using Nat.strongRecOn with
  |ind m y=>
   intro a out qw i z A l1 ho j;have c:a<=S.size:=by omega
   have d:=kc f i c (qw:=qw) (by omega) ho;have e:=ke f i c (qw:=qw) (by omega) ho;cases b:OH S a out qw with
   |next x=>
    rw [b]at d e;obtain⟨x1,B,C,D,q,E,F⟩:=bO f i c b;obtain⟨o,r,s,u⟩:=y (S.size-x.1).toNat (by omega) x.1 x.2.1 x.2.2 (by omega) (by omega) (by omega) (by omega) (q ho) (ez f b j);exact⟨o,.next d r,.next e s,u⟩
   |brk x=>
    rw [b]at d e;refine⟨.inl x,.brk d,.brk e,?_⟩;unfold OH at b;simp only at b;split at b
    .cases b;exact⟨ho,j⟩
    .split at b
     .cases b
     .split at b
      .cases b
      .split at b
       .cases b
       .split at b
        .cases b
        .split at b<;>cases b
   |ret v=>
    rw [b]at d e;refine⟨.inr v,.ret d,.ret e,?_⟩;unfold OH at b;simp only at b;split at b
    .cases b
    .split at b
     .cases b
     .split at b
      .cases b
      .split at b
       .cases b
       .split at b
        .cases b;simp
        .split at b<;>cases b;simp
 obtain ⟨o,c,w,l⟩:=key S.size 0 [] 1 (Int.le_refl 0) (by omega) (by omega) (by omega) (by simp) (by simp);have hf:AZ S 0=S:=by
  unfold AZ;simp
 rw [hf]at c;have k:¬(20000:Int)<S.size:=by omega
 have n:E8 S=hV (Dy QC (S,[],1)) (fun g=>some (g.2.1,0,0)) (fun h=>some h):=by
  unfold E8;rw[a6 (by simpa using k)];rfl
 have p:E0 S=hV (Dy (QH S) ([],1,0)) (fun g=>some (g.1,0,0)) (fun h=>some h):=by
  unfold E0;rw[a6 (by simpa using k)];rfl
 rw [n,p,c.eq,w.eq];cases o with
 |inl x=>exact⟨_,rfl,rfl,l⟩|inr v=>exact⟨_,rfl,rfl,l⟩
end Go.Sf.Sc
