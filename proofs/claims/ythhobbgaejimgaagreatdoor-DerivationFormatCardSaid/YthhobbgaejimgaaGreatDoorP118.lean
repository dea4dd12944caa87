/- Plain lemmas: what the functions of the program and of the reference compute. -/
import Derived.Test.YthhobbgaejimgaaGreatDoorP117
set_option linter.all false
set_option maxRecDepth 100000
namespace Go.Sf.Sc
open Go Go.Sf
variable{S:ByteArray}{a:Int}
theorem Zm(b:S.size<=20000)(c:0<=a)(d:a<S.size)(he:(FU (AV S a)).2.2=0):1<=(FU (AV S a)).2.1/\(FU (AV S a)).2.1<=(AV S a).size/\((FU (AV S a)).1=3->2<=(FU (AV S a)).2.1):=by
 obtain ⟨t,n,e,_,f,g⟩:=Sj b c d;obtain⟨i,j,_,k,l,m⟩:=g (f.trans he);rw[<-i];exact⟨k,l,fun h=>m (j.trans h)⟩
theorem Jc{a n:Int}(b:0<=a)(c:0<=n)(h:a+n<=S.size):rR (AV S a) n (AV S a).size=some (AV S (a+n)):=by
 have d:=FM b (show a<=S.size by omega);rw[El c (by omega) (Int.le_refl _),WH b c h]
theorem d8(p:S.size<=20000)(h:0<=a)(j:a<S.size):E5 (ρ:=(List AY×Int×Int)) (fun(b:Int)=>
 (if(decide (b<(S.size:Int)))=true then((rP S b).bind fun e=>
 some (!decide (e=10)))else some false).bind fun f=>
 if f=true then
 some (.next (AW (b+1)))
 else
 some (.brk b)) a=some (.inl (a+Bx (fun c=>!decide (c=10)) (AV S a))):=by
 have q:=FM h (Int.le_of_lt j);obtain⟨r,s,l,n⟩:=IP (fun c=>!decide (c=10)) (AV S a);generalize Bx (fun c=>!decide (c=10)) (AV S a)=m at *;have key:∀(k:Nat)(i:Int),0<=i->i+k=m->F9 (fun(b:Int)=>
   (if(decide (b<(S.size:Int)))=true then((rP S b).bind fun e=>
   some (!decide (e=10)))else some false).bind fun f=>
   if f=true then
   some (B2.next (ρ:=(List AY×Int×Int)) (AW (b+1)))
   else
   some (.brk b)) (a+i) (.inl (a+m)):=by
  intro k
  induction k with
  |zero=>
   intro i hi he;have:i=m:=by omega
   subst this;refine .brk ?_;by_cases d:a+i<(S.size:Int)
   .have g:=n (by omega);rw[KI h (Int.le_of_lt j) hi d]at g;simp only[d,decide_true,if_true,FH (show 0<=a+i by omega) d,bs];rw[g];rfl
   .simp[d]
  |succ k o=>
   intro i hi he;have d:a+i<(S.size:Int):=by omega
   have g:=l i hi (by omega);rw[KI h (Int.le_of_lt j) hi d]at g;refine .next (s':=a+(i+1)) ?_ (o (i+1) (by omega) (by omega))
   simp only[d,decide_true,if_true,FH (show 0<=a+i by omega) d,bs];rw[g,az rfl,BU (by omega) (by omega),Int.add_assoc]
 have:=(key m.toNat 0 (Int.le_refl 0) (by omega)).eq
 rwa [Int.add_zero]at this
def Ki(S:ByteArray)(a:Int)(out:List AY)(qo:Int):B2 (Int×List AY×Int) (List AY×Int×Int):=
 let c:=bt (AV S a) 0
 if ¬a<S.size then .brk (a,out,qo)
 else if c=10 then .next (a+1,out,qo+1)
 else if c=32\/c=9\/c=13 then .next (a+1,out,qo)
 else if c=35 then .next (a+Bx (fun c=>!decide (c=10)) (AV S a),out,qo)
 else if(FU (AV S a)).2.2≠0 then .ret ([],qo,(FU (AV S a)).2.2)
 else if(out.length:Int)=4000 then .ret ([],qo,3)
 else .next (a+(FU (AV S a)).2.1,out++[⟨(FU (AV S a)).1,NE (AV S a),qo⟩],qo)
def di{σ τ ρ:Type}(g:σ->τ):B2 σ ρ->B2 τ ρ
 |.next s=>.next (g s)|.brk s=>.brk (g s)|.ret r=>.ret r
variable{x:Int×List AY×Int}
theorem br(e:S.size<=20000)(d:0<=a)(f:a<=S.size){out:List AY}{qo:Int}(h:Ki S a out qo=.next x):a<x.1/\x.1<=S.size/\x.2.1.length<=out.length+1/\out.length<=x.2.1.length/\(out.length<=4000->x.2.1.length<=4000)/\qo<=x.2.2/\x.2.2<=qo+1:=by
 unfold Ki at h;simp only at h;split at h
 .cases h
 .rename_i b;have b:a<S.size:=by simpa using b
  have k:=FM d f;split at h
  .cases h;simp;omega
  .rename_i g;split at h
   .cases h;simp;omega
   .split at h
    .rename_i i;obtain⟨l,m⟩:=QF (p:=fun c=>!decide (c=10)) (s:=AV S a) (by omega) (by simpa using g);cases h;simp;omega
    .split at h
     .cases h
     .rename_i he;obtain⟨n,o,_⟩:=Zm e d b (by simpa using he);split at h
      .cases h
      .rename_i j;cases h;simp;omega
noncomputable def KZ[Ev]:ByteArray×List AY×Int->Option (B2 (ByteArray×List AY×Int) (List AY×Int×Int)):=fun(s0:ByteArray×List AY×Int)=>
 if (decide (0<(s0.1.size:Int)))=true then
 (rP s0.1 0).bind fun x19=>
 if (decide (x19=10))=true then
 (rR s0.1 1 s0.1.size).bind fun x26=>
 some (.next (x26,s0.2.1,AW (s0.2.2+1)))
 else
 if (((decide (x19=32))||(decide (x19=9)))||(decide (x19=13)))=true then
 (rR s0.1 1 s0.1.size).bind fun x39=>
 some (.next (x39,s0.2.1,s0.2.2))
 else
 if (decide (x19=35))=true then
 (Dn s0.1 F3).bind fun x45=>
 (rR s0.1 x45 s0.1.size).bind fun x46=>
 some (.next (x46,s0.2.1,s0.2.2))
 else
 (D9 s0.1).bind fun x49=>
 if (!decide (x49.2.2=0))=true then
 some (.ret ([],s0.2.2,x49.2.2))
 else
 if (decide ((s0.2.1.length:Int)=4000))=true then
 some (.ret ([],s0.2.2,3))
 else
 (rR s0.1 0 x49.2.1).bind fun x63=>
 if (decide (x49.1=3))=true then
 (rR s0.1 1 (AW (x49.2.1-1))).bind fun x69=>
 (Am s0.2.1 [AY.mk x49.1 x69 s0.2.2]).bind fun x76=>
 (rR s0.1 x49.2.1 s0.1.size).bind fun x79=>
 some (.next (x79,x76,s0.2.2))
 else
 (Am s0.2.1 [AY.mk x49.1 x63 s0.2.2]).bind fun x76=>
 (rR s0.1 x49.2.1 s0.1.size).bind fun x79=>
 some (.next (x79,x76,s0.2.2))
 else
 some (.brk (s0.1,s0.2.1,s0.2.2))
theorem Sg(m:S.size<=20000)(b:0<=a)(n:a<=S.size){out:List AY}{qo:Int}(r:-1<=qo/\qo<=20001)(ho:out.length<=4000):
  KZ (AV S a,out,qo)=some (di (fun x=>(AV S x.1,x.2)) (Ki S a out qo)):=by
 unfold KZ;have u:=FM b n;unfold Ki;simp only;by_cases d:a<(S.size:Int)
 .have j:(0:Int)<(AV S a).size:=by omega
  simp only[j,decide_true,if_true,FH (Int.le_refl 0) j,bs,d,not_true,if_false];by_cases e:bt (AV S a) 0=10
  .simp only[e,decide_true,if_true];rw[Jc b (by omega) (by omega),bs,BU (by omega) (by omega)];rfl
  .simp only[e,decide_false,Bool.false_eq_true,if_false];by_cases k:bt (AV S a) 0=32\/bt (AV S a) 0=9\/bt (AV S a) 0=13
   .rw[az (by simp;rcases k with h|h|h<;>simp[h]),az k,Jc b (by omega) (by omega)];rfl
   .rw[bk (by simp;grind),bk k];by_cases f:bt (AV S a) 0=35
    .obtain⟨v,w⟩:=QF (p:=fun c=>!decide (c=10)) (s:=AV S a) (by omega) (by simpa using e);simp only[f,decide_true,if_true];rw[Ra (p:=fun c=>!decide (c=10)) (by omega) (show∀c,F3 c=some (!decide (c=10))from fun _=>rfl),bs,Jc b (by omega) (by omega)];rfl
    .simp only[f,decide_false,Bool.false_eq_true,if_false];rw[YJ (by omega) (by omega),bs];by_cases he:(FU (AV S a)).2.2=0
     .obtain⟨y,o,q⟩:=Zm m b d he;simp only[he,decide_true,Bool.not_true,Bool.false_eq_true,if_false,ne_eq,not_true];by_cases l:(out.length:Int)=4000
      .simp only[l,decide_true,if_true];rfl
      .simp only[l,decide_false,Bool.false_eq_true,if_false];rw[El (Int.le_refl 0) (by omega) o,bs];have g:∀t:AY,Am out [t]=some (out++[t]):=fun t=>F6 (by simp[Br];omega);by_cases i:(FU (AV S a)).1=3
       .have:=q i;rw[az (by simpa using i),BU (by omega) (by omega),El (by omega) (by omega) (by omega),bs,g,bs,Jc b (by omega) (by omega)];unfold NE;rw[az i];rfl
       .rw[bk (by simpa using i),g,bs,Jc b (by omega) (by omega)];unfold NE;rw[bk i];rfl
     .simp only[he,decide_false,Bool.not_false,if_true,ne_eq,not_false_iff];rfl
 .have j:¬(0:Int)<(AV S a).size:=by omega
  simp only[j,decide_false,Bool.false_eq_true,if_false,d,not_false_iff,if_true];rfl
noncomputable def P9[Ev](S:ByteArray):List AY×Int×Int->Option (B2 (List AY×Int×Int) (List AY×Int×Int)):=fun(s0:List AY×Int×Int)=>
 if (decide (s0.2.2<(S.size:Int)))=true then
 (rP S s0.2.2).bind fun x20=>
 if (decide (x20=35))=true then
 o4 (E5 (ρ:=(List AY×Int×Int)) (fun(s2:Int)=>
 (if(decide (s2<(S.size:Int)))=true then((rP S s2).bind fun x29=>
 some (!decide (x29=10)))else some false).bind fun x31=>
 if x31=true then
 some (.next (AW (s2+1)))
 else
 some (.brk s2)) s0.2.2) (fun s2=>
 some (.next (s0.1,s0.2.1,s2))) (fun v2=>some (.ret v2))
 else
 (rP S s0.2.2).bind fun x36=>
 (Gi x36).bind fun x37=>
 if x37=true then
 (rP S s0.2.2).bind fun x40=>
 if (decide (x40=10))=true then
 some (.next (s0.1,AW (s0.2.1+1),AW (s0.2.2+1)))
 else
 some (.next (s0.1,s0.2.1,AW (s0.2.2+1)))
 else
 (HH S s0.2.2).bind fun x49=>
 if ((decide (x49.2.2=0))&&(decide ((s0.1.length:Int)=4000)))=true then
 if (!decide (3=0))=true then
 some (.ret ([],s0.2.1,3))
 else
 (Am s0.1 [AY.mk x49.1.rh x49.1.sn s0.2.1]).bind fun x69=>
 some (.next (x69,s0.2.1,AW (s0.2.2+x49.2.1)))
 else
 if (!decide (x49.2.2=0))=true then
 some (.ret ([],s0.2.1,x49.2.2))
 else
 (Am s0.1 [AY.mk x49.1.rh x49.1.sn s0.2.1]).bind fun x69=>
 some (.next (x69,s0.2.1,AW (s0.2.2+x49.2.1)))
 else
 some (.brk (s0.1,s0.2.1,s0.2.2))
theorem ki(k:S.size<=20000)(c:0<=a)(l:a<=S.size){out:List AY}{qo:Int}(v:-1<=qo/\qo<=20001)(ho:out.length<=4000):
  P9 S (out,qo,a)=some (di (fun x=>(x.2.1,x.2.2,x.1)) (Ki S a out qo)):=by
 unfold P9;have w:=FM c l;unfold Ki;simp only;by_cases b:a<(S.size:Int)
 .have h:bt S a=bt (AV S a) 0:=by rw[KI c l (Int.le_refl 0) (by omega)];congr 1;omega
  simp only[b,decide_true,if_true,FH c b,bs,h,not_true,if_false,BU (show -9223372036854775808<=a+1 by omega) (by omega),BU (show -9223372036854775808<=qo+1 by omega) (by omega)];by_cases d:bt (AV S a) 0=35
  .simp only[d,decide_true,if_true,d8 k c b,o4,show¬(35:Int)=10 by decide,show¬((35:Int)=32\/(35:Int)=9\/(35:Int)=13)by decide,if_false];rfl
  .simp only[d,decide_false,Bool.false_eq_true,if_false];have i:Gi (bt (AV S a) 0)=some (decide (bt (AV S a) 0=32\/bt (AV S a) 0=9\/bt (AV S a) 0=13)||decide (bt (AV S a) 0=10)):=by
    unfold Gi;congr 1
    grind
   rw [i,bs];by_cases f:bt (AV S a) 0=10
   .simp only[f,decide_true,Bool.or_true,if_true];rfl
   .simp only[f,decide_false,Bool.or_false,Bool.false_eq_true,if_false];by_cases g:bt (AV S a) 0=32\/bt (AV S a) 0=9\/bt (AV S a) 0=13
    .rw[az (by simpa using g),az g];rfl
    .rw[bk (by simpa using g),bk g];obtain⟨t,n,e,p,o,q⟩:=Sj k c b;rw[p,bs];simp only[o];by_cases he:(FU (AV S a)).2.2=0
     .obtain⟨r,s,u,y,z,_⟩:=q (o.trans he);simp only[he,decide_true,Bool.true_and,Bool.not_true,Bool.false_eq_true,if_false,ne_eq,not_true];by_cases m:(out.length:Int)=4000
      .simp only[m,decide_true,if_true,show(!decide ((3:Int)=0))=true from rfl];rfl
      .simp only[m,decide_false,Bool.false_eq_true,if_false];have j:∀t:AY,Am out [t]=some (out++[t]):=fun t=>F6 (by simp[Br];omega);rw[j,bs,BU (by omega) (by omega),r,s,u];rfl
     .simp only[he,decide_false,Bool.false_and,Bool.false_eq_true,if_false,Bool.not_false,if_true,ne_eq,not_false_iff];rfl
 .simp only[b,decide_false,Bool.false_eq_true,if_false,not_false_iff,if_true];rfl
theorem fF(c:S.size<=20000){out:List AY}{qo:Int}(h:Ki S a out qo=.next x)(ho:∀t∈out,t.sn.size<=20000):∀t∈x.2.1,t.sn.size<=20000:=by
 unfold Ki at h;simp only at h;split at h
 .cases h
 .split at h
  .cases h;exact ho
  .split at h
   .cases h;exact ho
   .split at h
    .cases h;exact ho
    .split at h
     .cases h
     .split at h
      .cases h
      .cases h;intro t b;rcases List.mem_append.1 b with b|b
       .exact ho t b
       .rw[List.mem_singleton.1 b];show(NE (AV S a)).size<=20000;unfold NE AV;split<;>simp only[ByteArray.size_extract]<;>omega
theorem TM(f:S.size<=20000):∃v,Co S=some v/\Da S=some v/\v.1.length<=4000/\∀t∈v.1,t.sn.size<=20000:=by
 have key:∀(m:Nat)(a:Int)(out:List AY)(qo:Int),0<=a->a+m=S.size->0<=qo->qo<=a+1->out.length<=4000->(∀t∈out,t.sn.size<=20000)->∃o:(Int×List AY×Int) ⊕ (List AY×Int×Int),
   F9 KZ (AV S a,out,qo) (match o with|.inl x=>.inl (AV S x.1,x.2)|.inr v=>.inr v)/\F9 (P9 S) (out,qo,a) (match o with|.inl x=>.inl (x.2.1,x.2.2,x.1)|.inr v=>.inr v)/\(match o with|.inl x=>x.2.1.length<=4000/\∀t∈x.2.1,t.sn.size<=20000|.inr v=>v.1.length<=4000/\∀t∈v.1,t.sn.size<=20000):=by
  intro m
  induction m using Nat.strongRecOn with
  |ind m y=>
   intro a out qo i z A l1 ho j;have c:a<=S.size:=by omega
   have d:=Sg f i c (qo:=qo) (by omega) ho;have e:=ki f i c (qo:=qo) (by omega) ho;cases b:Ki S a out qo with
   |next x=>
    rw [b]at d e;obtain⟨x1,B,C,D,q,E,F⟩:=br f i c b;obtain⟨o,r,s,u⟩:=y (S.size-x.1).toNat (by omega) x.1 x.2.1 x.2.2 (by omega) (by omega) (by omega) (by omega) (q ho) (fF f b j);exact⟨o,.next d r,.next e s,u⟩
   |brk x=>
    rw [b]at d e;refine⟨.inl x,.brk d,.brk e,?_⟩;unfold Ki at b;simp only at b;split at b
    .cases b;exact⟨ho,j⟩
    .split at b
     .cases b
     .split at b
      .cases b
      .split at b
       .cases b
       .split at b
        .cases b
        .split at b<;>cases b
   |ret v=>
    rw [b]at d e;refine⟨.inr v,.ret d,.ret e,?_⟩;unfold Ki at b;simp only at b;split at b
    .cases b
    .split at b
     .cases b
     .split at b
      .cases b
      .split at b
       .cases b
       .split at b
        .cases b;simp
        .split at b<;>cases b;simp
 obtain ⟨o,c,w,l⟩:=key S.size 0 [] 1 (Int.le_refl 0) (by omega) (by omega) (by omega) (by simp) (by simp);have hf:AV S 0=S:=by
  unfold AV;simp
 rw [hf]at c;have k:¬(20000:Int)<S.size:=by omega
 have n:Co S=o4 (E5 KZ (S,[],1)) (fun g=>some (g.2.1,0,0)) (fun h=>some h):=by
  unfold Co;rw[bk (by simpa using k)];rfl
 have p:Da S=o4 (E5 (P9 S) ([],1,0)) (fun g=>some (g.1,0,0)) (fun h=>some h):=by
  unfold Da;rw[bk (by simpa using k)];rfl
 rw [n,p,c.eq,w.eq];cases o with
 |inl x=>exact⟨_,rfl,rfl,l⟩|inr v=>exact⟨_,rfl,rfl,l⟩
end Go.Sf.Sc
