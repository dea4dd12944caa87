/- Plain lemmas: what the functions of the program and of the reference compute. -/
import Derived.Test.YtagcclhejecceaaGreatP96
set_option linter.all false
set_option maxRecDepth 100000
namespace Go.Sf
def Kr{α σ ρ:Type}(g:α->σ->σ ⊕ ρ):List α->σ->σ ⊕ ρ
 |[],s=>.inl s|x::l,s=>match g x s with
  |.inl s'=>Kr g l s'|.inr r=>.inr r
def oR{σ ρ:Type}:σ ⊕ ρ->Bx σ ρ
 |.inl s=>.next s|.inr r=>.ret r
variable{α σ ρ:Type}
theorem XW{g:α->σ->σ ⊕ ρ}{I:σ->Prop}{R:ρ->Prop}:∀{l:List α}{s:σ},(∀x∈l,∀s,I s->(∀s',g x s=.inl s'->I s')/\∀r,g x s=.inr r->R r)->I s->(∀s',Kr g l s=.inl s'->I s')/\∀r,Kr g l s=.inr r->R r
 |[],s,_,h=>⟨fun s' e=>by cases e;exact h,fun r e=>by cases e⟩
 |x::l,s,a,h=>by
  obtain ⟨c,d⟩:=a x (.head _) s h;rw[Kr];cases e:g x s with
  |inl v=>exact XW (fun y b=>a y (List.mem_cons_of_mem _ b)) (c v e)|inr r=>
   constructor
   .intro s' k;cases k
   .intro i k;cases k;exact d r e
variable{f:Int->σ->Option (Bx σ ρ)}{l:List α}
theorem Ui[Inhabited α](g:α->σ->σ ⊕ ρ)(I:σ->Prop)(h:∀(i:Int)s,0<=i->i<l.length->I s->f i s=some (oR (g (AA l i) s))/\∀s',g (AA l i) s=.inl s'->I s'):
  ∀(n:Nat)(a:Int)(s:σ),0<=a->a+n=l.length->I s->wo f n a s=some (Kr g (l.drop a.toNat) s)
 |0,a,s,a0,e,_=>by
  rw [List.drop_eq_nil_of_le (by omega)];rfl
 |n+1,a,s,a0,e,j=>by
  obtain ⟨c,d⟩:=h a s a0 (by omega) j;have hd:l.drop a.toNat=AA l a::l.drop (a+1).toNat:=by
   rw [List.drop_eq_getElem_cons (by omega),show(a+1).toNat=a.toNat+1 by omega];congr 1;unfold AA;rw[List.getD_eq_getElem?_getD,List.getElem?_eq_getElem (by omega)];rfl
  rw [E9,c,hd,Kr];cases b:g (AA l a) s with
  |inr r=>rfl|inl v=>exact Ui g I h n (a+1) v (by omega) (by omega) (d v b)
theorem Vu[Inhabited α](g:α->σ->σ ⊕ ρ)(I:σ->Prop){s:σ}(a:I s)(h:∀(i:Int)s,0<=i->i<l.length->I s->f i s=some (oR (g (AA l i) s))/\∀s',g (AA l i) s=.inl s'->I s'):jj f 0 l.length s=some (Kr g l s):=by
 have:=Ui g I h l.length 0 s (by omega) (by omega) a;unfold jj;simpa using this
end Go.Sf
namespace Go.Sf.Sc
open Go Go.Sf
variable{r:gp}
theorem VV{t:AC}{s:B3}(h:OM t s r=0):FY r.d5<=40:=by
 unfold OM at h;split at h
 .omega
 split at h
 .omega
 split at h
 .cases h
 rename_i m o g;have b:UC r=true:=by simpa using g
 unfold UC at b;simp only[pr,wq]at b;have i:r.d5.kp=1:=b.1.2;obtain⟨_,_,e⟩:=Rg (t:=t) (r:=r) (by omega);unfold Lr at e;split at e
 .omega
 split at e
 .omega
 rename_i p q;have c:NG r.d5=0:=by omega
 have d:aL r.d5=true:=by
  cases j:aL r.d5 with
  |true=>rfl|false=>unfold NG at c;rw[a6 j]at c;cases c
 unfold aL at d;have u:=GE r.d5;obtain⟨n,k⟩:∃n,SizeOf.sizeOf r.d5=n+1:=⟨SizeOf.sizeOf r.d5-1,by omega⟩;rw[k,QN,pr]at d;have a:=d.1;unfold P2 at a;rw[a6 i]at a;simp only[pr,wq]at a;rw[Y1,List.eq_nil_of_length_eq_zero a.1];decide
noncomputable def Mn(t:AC)(s:B3)(j0:List gp):Int:=
 if 6<(j0.length:Int)then 3 else if ID t s≠0 then ID t s else if(t.ca.any fun n=>decide (0<(n.po.length:Int)))=true then 8 else
 (fst (fun i=>nz (OM t s (AA j0 i))) 0 j0.length).getD 0
theorem pP{t:AC}(hf:Aw t)(s:B3):∃x,Fy t s=some (x,ID t s):=by
 unfold Fy;rw[br hf,bs];by_cases h:ID t s=0
 .obtain⟨j,a⟩:=aB h;have d:=a.w9;have e:=a.xr;have g:=hf.d7;have i:=hf.ei;rw[ae (by simp[h])];obtain⟨m,b⟩:=QC (l:=s.ca) (by omega);obtain⟨k,c⟩:=QC (l:=s.ci) (by omega);rw[b,bs,c,bs,h];exact⟨_,rfl⟩
 .rw[a6 (by simp[h])];exact⟨_,rfl⟩
theorem pG{t:AC}(hf:Aw t)(s:B3){j0:List gp}(g:∀r∈j0,G5 r):CD ⟨t,s,j0⟩=some (Mn t s j0):=by
 unfold CD Mn;dsimp only;by_cases a:6<(j0.length:Int)
 .rw[a6 (by simpa using a),a6 a]
 rw [ae (by simpa using a),ae a];obtain⟨x,e⟩:=pP hf s;rw[e,bs];dsimp only;refine D1 fun _=>?_;rw[show BM t.ca EE=some (t.ca.any fun n=>decide (0<(n.po.length:Int)))from aT fun n _=>rfl,bs];by_cases b:(t.ca.any fun n=>decide (0<(n.po.length:Int)))=true
 .rw[a6 b,a6 b]
 rw [ae b,ae b,BR (fun i=>nz (OM t s (AA j0 i))),CN];intro i c d _;rw[AD c d,bs,pR hf (g _ (AJ c d)),bs,KQ]
theorem fj{t:AC}(hf:Aw t)(s:B3){j0:List gp}(d:∀r∈j0,G5 r):Hn t s j0=some (Mn t s j0):=by
 unfold Hn Mn;by_cases c:6<(j0.length:Int)
 .rw[a6 (by simpa using c),a6 c]
 rw [ae (by simpa using c),ae c,b8 hf,bs];refine D1 fun _=>?_;rw[BJ (fun i=>decide (0<((AA t.ca i).po.length:Int))) 8]
 .rw[show(t.ca.any fun n=>decide (0<(n.po.length:Int)))=kx (fun i=>decide (0<((AA t.ca i).po.length:Int))) 0 t.ca.length from FX];cases kx (fun i=>decide (0<((AA t.ca i).po.length:Int))) 0 t.ca.length with
  |true=>rfl|false=>
   rw [ae (by decide),ae (by decide),CX,BR (fun i=>nz (OM t s (AA j0 i))),CN];intro i a b _;rw[AD a b,bs,p6 hf (d _ (AJ a b)),bs,KQ]
 .intro i a b _;rw[AD a b,bs];cases decide (0<((AA t.ca i).po.length:Int))<;>rfl
theorem Wu{t:AC}{s:B3}{j0:List gp}(h:Mn t s j0=0):∀r∈j0,OM t s r=0:=by
 unfold Mn at h;split at h
 .cases h
 split at h
 .omega
 split at h
 .cases h
 intro r a;obtain⟨i,b,c,rfl⟩:=Be a;exact SY h i b c
def zH:AH:=⟨⟨[],[]⟩,[]⟩
theorem Qy:Ma zH:=⟨⟨by simp[zH],by simp[zH],by simp[zH],fun v hv=>by simp[zH]at hv⟩,fun v hv=>by simp[zH]at hv⟩
theorem a7{t:AC}(hf:Aw t)(fr:G5 r)(a:FY r.d5<=40){h:AH}{m:AU}(e:(HC t r h m).2=0):ke (HC t r h m).1:=by
 obtain ⟨s,b⟩:=g8 hf fr a e;rw[b];exact gl s
theorem oZ{b:Bool}{o:K1}{c:Bool}(h:b=false->o=some c):(if b=true then some true else o)=some (b||c):=by
 cases b with
 |true=>rfl|false=>rw[ae (by decide),h rfl];rfl
noncomputable def KB(t:AC)(j0:List gp)(m:D8)(s:AH×AH):(AH×AH) ⊕ (AH×Int):=
 if m.gp<0\/(j0.length:Int)<=m.gp then .inr (zH,6)else
 if (HC t (AA j0 m.gp) s.2 m.o3).2≠0 then .inr (zH,(HC t (AA j0 m.gp) s.2 m.o3).2)else .inl (s.1,(HC t (AA j0 m.gp) s.2 m.o3).1.sx)
noncomputable def Q8(t:AC)(s:B3)(j0:List gp)(l:List D8):AH×Int:=
 if Mn t s j0≠0 then(zH,Mn t s j0)else if 30<(l.length:Int)then(zH,3)else
 match Kr (KB t j0) l (zH,zH)with
 |.inl x=>(x.2,0)|.inr r=>r
section
variable{t:AC}{s:B3}{j0:List gp}
theorem fG(hf:Aw t)(e:∀r∈j0,G5 r)(g:Mn t s j0=0)(m:D8)(x:AH×AH):(∀x',KB t j0 m x=.inl x'->Ma x'.2)/\∀r,KB t j0 m x=.inr r->Ma r.1:=by
 unfold KB;by_cases c:m.gp<0\/(j0.length:Int)<=m.gp
 .rw[a6 c];exact⟨fun _ h=>(by cases h),fun r h=>by cases h;exact Qy⟩
 rw [ae c];have d:=AJ (l:=j0) (i:=m.gp) (by omega) (by omega);by_cases b:(HC t (AA j0 m.gp) x.2 m.o3).2=0
 .rw[ae (by simp[b])];exact⟨fun _ h=>by cases h;exact(a7 hf (e _ d) (VV (Wu g _ d)) b).a,fun r h=>by cases h⟩
 .rw[a6 b];exact⟨fun _ h=>(by cases h),fun r h=>by cases h;exact Qy⟩
theorem Yv(hf:Aw t)(c:∀r∈j0,G5 r)(l:List D8):Ma (Q8 t s j0 l).1:=by
 unfold Q8;by_cases a:Mn t s j0=0
 .rw[ae (by simp[a])];by_cases b:30<(l.length:Int)
  .rw[a6 b];exact Qy
  rw [ae b];have:=XW (g:=KB t j0) (I:=fun x=>Ma x.2) (R:=fun r=>Ma r.1) (l:=l) (s:=(zH,zH)) (fun m _ x _=>fG hf c a m x) Qy;cases e:Kr (KB t j0) l (zH,zH)with
  |inl x=>exact this.1 x e|inr r=>exact this.2 r e
 .rw[a6 a];exact Qy
theorem lD(hf:Aw t)(d:∀r∈j0,G5 r)(l:List D8):EJ t s j0 l=some (Q8 t s j0 l):=by
 unfold EJ Q8;rw[pG hf s d,bs];refine D1 fun g=>?_;by_cases a:30<(l.length:Int)
 .rw[a6 (by simpa using a),a6 a];rfl
 rw [ae (by simpa using a),ae a,Vu (KB t j0) (fun _=>True) trivial fun i x h j _=>⟨?_,fun _ _=>trivial⟩]
 .show ek (some (Kr (KB t j0) l (zH,zH))) _ _=_;cases Kr (KB t j0) l (zH,zH)<;>rfl
 .rw[AD h j,bs];unfold KB;by_cases b:(AA l i).gp<0\/(j0.length:Int)<=(AA l i).gp
  .rw[a6 (by simpa using b),a6 b];rfl
  rw [ae (by simpa using b),ae b,AD (by omega) (by omega),bs];have e:=AJ (l:=j0) (i:=(AA l i).gp) (by omega) (by omega);rw[pO hf (d _ e) (VV (Wu g _ e)),bs];by_cases c:(HC t (AA j0 (AA l i).gp) x.2 (AA l i).o3).2=0
  .rw[ae (by simp[c]),ae (by simp[c])];rfl
  .rw[a6 (by simp[c]),a6 c];rfl
theorem lK(hf:Aw t)(d:∀r∈j0,G5 r)(l:List D8):Jt t s j0 l=some (Q8 t s j0 l):=by
 unfold Jt Q8;rw[fj hf s d,bs];refine D1 fun g=>?_;by_cases a:30<(l.length:Int)
 .rw[a6 (by simpa using a),a6 a];rfl
 rw [ae (by simpa using a),ae a,Vu (KB t j0) (fun _=>True) trivial fun i x h j _=>⟨?_,fun _ _=>trivial⟩]
 .show ek (some (Kr (KB t j0) l (zH,zH))) _ _=_;cases Kr (KB t j0) l (zH,zH)<;>rfl
 .rw[AD h j,bs,bs,oZ fun _=>rfl,bs];unfold KB;by_cases b:(AA l i).gp<0\/(j0.length:Int)<=(AA l i).gp
  .rw[a6 (by simpa using b),a6 b];rfl
  rw [ae (by simpa using b),ae b,bs,AD (l:=j0) (by omega) (by omega),bs,bs];have e:=AJ (l:=j0) (i:=(AA l i).gp) (by omega) (by omega);rw[p0 hf (d _ e) (VV (Wu g _ e)),bs];by_cases c:(HC t (AA j0 (AA l i).gp) x.2 (AA l i).o3).2=0
  .rw[ae (by simp[c]),ae (by simp[c])];rfl
  .rw[a6 (by simp[c]),a6 c];rfl
end
theorem kV(n:Nat):(A3 n).Nodup:=by
 unfold A3;exact List.Pairwise.map _ (fun a b h e=>h (Int.ofNat.inj e)) List.nodup_range
def cq(l:Fp)(n:Int):Bool:=!kx (fun i=>!hasB l i) 0 n
theorem fh(l:Fp)(n:Nat):Ip l n=some (cq l n):=by
 unfold Ip cq;rw[BJ (fun i=>!hasB l i) false]
 .cases kx (fun i=>!hasB l i) 0 (n:Int)<;>rfl
 intro i c d _;rw[B0 (fun j=>hasB (l.take j.toNat) i) (by omega) (by simp[hasB]),bs,Int.toNat_natCast,List.take_length]
 .cases hasB l i<;>rfl
 intro j a b;have e:hasB (l.take (j+1).toNat) i=(hasB (l.take j.toNat) i||decide (AA l j=i)):=by
  rw [DF a b];simp[hasB,eq_comm]
 rw [e];cases hasB (l.take j.toNat) i with
 |true=>rfl|false=>
  rw [ae (by decide),AD a b,bs,bs];rfl
theorem bK{l:Fp}{n:Nat}(b:l.Nodup)(h:∀x∈l,0<=x/\x<n):cq l n=decide (l.length=n):=by
 rw [Bool.eq_iff_iff,wq];unfold cq;rw[Bool.not_eq_true',By];have j:=RP b h;refine⟨fun c=>?_,fun g i d e=>?_⟩
 .have:=List.Nodup.length_le_of_subset (l₁:=A3 n) (l₂:=l) (kV n) (fun x a=>by
   have:=c x (Eh.1 a).1 (Eh.1 a).2;simpa[CH]using this)
  rw [BN]at this;omega
 .by_cases hi:i∈l
  .simp[CH.2 hi]
  .have:=RP (l:=i::l) (n:=n) (List.nodup_cons.2 ⟨hi,b⟩) (fun x a=>by
    rcases List.mem_cons.1 a with rfl|a
    .exact⟨d,e⟩
    .exact h x a)
   simp at this;omega
noncomputable def ZS(a b:c9)(m:d3):Bool:=decide (HH a b m=0)&&(Hg m&&(decide (m.ca.length=b.ca.length)&&decide (m.ci.length=b.ci.length)))
theorem pI(a b:c9)(m:d3):((CQ a b m).bind fun c=>(if c=true then((Dc a b m).bind fun d=>some (d))else some false).bind fun g=>some g)=some (ZS a b m):=by
 unfold ZS;by_cases h:HH a b m=0
 .rw[dZ h,bs,decide_eq_true h,Bool.true_and];cases hi:Hg m with
  |false=>rfl|true=>
   have ho:=QA h;have:=ho.ga.d7;have:=ho.ga.ei;have:=ho.w9;have:=ho.xr;obtain⟨k,o,i⟩:=RX (l:=m.ca) (by omega);obtain⟨j,p,n⟩:=RX (l:=m.ci) (by omega);unfold Hg at hi;rw[pr]at hi;rw[hi.1,wq]at i;rw[hi.2,wq]at n;unfold Dc;rw[a6 rfl,UN,h,bs,a6 (decide_eq_true rfl),o,bs,bs,i];by_cases e:m.ca.length=b.ca.length
   .rw[a6 (by simp[e]),p,bs,bs,n];simp[e];omega
   .rw[ae (by simp;omega)];simp[e]
 .unfold CQ;rw[UN,bs,ae (by simp[h])];simp[h]
theorem pu(a b:c9)(m:d3):∃x,Ja a b m=some x/\decide (x.2=0)=ZS a b m:=by
 unfold Ja ZS;rw[UP,bs];by_cases h:HH a b m=0
 .rw[ae (by simp[h]),lL h,bs,decide_eq_true h,Bool.true_and];cases hi:Hg m with
  |false=>exact⟨_,rfl,rfl⟩|true=>
   have ho:=QA h;have:=ho.ga.d7;have:=ho.ga.ei;have:=ho.gb.d7;have:=ho.gb.ei;have:=ho.w9;have:=ho.xr;have c:=hi;unfold Hg at c;rw[pr]at c;have k:=Nd.1 c.1;have n:=Nd.1 c.2;have o:=bK k fun x d=>by
    obtain ⟨i,g,j,rfl⟩:=Be d;exact(ho.node i g j).1
   have p:=bK n fun x d=>by
    obtain ⟨i,g,j,rfl⟩:=Be d;exact(ho.edge i g j).1
   have q:HL a b m=some (decide (m.ca.length=b.ca.length)&&decide (m.ci.length=b.ci.length)):=by
    unfold HL;rw[UP,h,bs,a6 (decide_eq_true rfl),fh,bs,bs,o];by_cases e:m.ca.length=b.ca.length
    .rw[a6 (by simp[e]),fh,bs,bs,p];simp[e]
    .rw[ae (by simp[e])];simp[e]
   rw [q,ae (by decide),bs,bs,Bool.true_and];cases u:(decide (m.ca.length=b.ca.length)&&decide (m.ci.length=b.ci.length))with
   |false=>exact⟨_,rfl,rfl⟩|true=>
    rw [ae (by decide),Sw (by omega) (by omega) k,bs,Sw (by omega) (by omega) n,bs];exact⟨_,rfl,rfl⟩
 .rw[a6 (by simp[h])];exact⟨_,rfl,by simp[h]⟩
noncomputable def cm(t:AC)(s:B3)(j0:List gp)(x:Cd):Bool:=
 if (Q8 t s j0 x.xx).2≠0 then false else if(He t x.wt).2≠0 then false else ZS (Q8 t s j0 x.xx).1.c9 x.wt.c9 x.y7
section
variable{t:AC}{s:B3}{j0:List gp}
theorem o8(hf:Aw t)(a:∀r∈j0,G5 r)(x:Cd):EK t s j0 x=some (cm t s j0 x):=by
 unfold EK cm;rw[lD hf a,bs];refine D1 fun _=>?_;rw[WI hf,bs];exact D1 fun _=>pI _ _ _
theorem pV(hf:Aw t)(a:∀r∈j0,G5 r)(x:Cd):Lj t s j0 x=some (cm t s j0 x):=by
 unfold Lj cm;rw[lK hf a,bs];refine D1 fun _=>?_;rw[WS hf,bs];refine D1 fun _=>?_;obtain⟨y,b,c⟩:=pu (Q8 t s j0 x.xx).1.c9 x.wt.c9 x.y7;rw[b,bs,c]
theorem sT(m:(AM t).Sm)(n:∀r∈j0,(Bg r).Sm):∃b,Og t s j0=some b/\(b=true->Aw t/\∀r∈j0,G5 r):=by
 unfold Og;by_cases h:8<(j0.length:Int)
 .rw[a6 (by simpa using h)];exact⟨false,rfl,fun h=>by cases h⟩
 rw [ae (by simpa using h)];rcases U6 (f:=fun(c:Int)(_:Unit)=>
  (idx j0 c).bind fun g=>
  (Kc t s g).bind fun k=>
  if (!k)=true then
  some (.ret false)
  else
  some (.next ())) (fun i _=>∀j:Int,0<=j->j<i->G5 (AA j0 j)) (fun _=>False) (fun r=>r=false) (a:=0) (b:=j0.length) (s:=()) (by omega) (fun j v w=>by omega) (fun i s' c d hi=>by
   obtain ⟨b,e,f⟩:=bQ (s:=s) m (n _ (AJ c d));rw[AD c d,bs,e,bs];cases b with
   |false=>exact .inr (.inr ⟨false,rfl,rfl⟩)|true=>
    refine .inl ⟨(),rfl,fun j o x=>?_⟩;by_cases e:j=i
    .rw[e];exact(f rfl).2
    .exact hi j o (by omega))with⟨s',e3,h3⟩|⟨r,e3,h3⟩
 .rw[e3,CX];have u:=h3.resolve_right id;obtain⟨b,e,f⟩:=bQ (t:=t) (s:=s) (r:=⟨⟨#[]⟩,⟨⟨[],[]⟩,[],0,[]⟩,⟨⟨[],[]⟩,[],0,[]⟩,⟨[],[]⟩,⟨[],[]⟩,false,⟨0,[],⟨[],[]⟩,⟨⟨[],[]⟩,[],0,[]⟩⟩⟩) m (by
   simp only[Bg,TV.Sm,TV.xB]
   repeat' (first|exact trivial|exact Nat.zero_le _|exact⟨Nat.zero_le _,trivial⟩|apply And.intro))
  rw [e,bs];refine⟨b,rfl,fun p=>⟨(f p).1,fun r q=>?_⟩⟩;obtain⟨i,c,d,rfl⟩:=Be q;exact u i c d
 .rw[e3,QM,h3];exact⟨false,rfl,fun h=>by cases h⟩
theorem bc(d:(AM t).Sm)(e:∀r∈j0,(Bg r).Sm)(h:AH):∃b,Ju t s j0 h=some b/\(b=true->Aw t/\∀r∈j0,G5 r):=by
 obtain ⟨k,m,n⟩:=sT (s:=s) d e;obtain⟨o,p,_⟩:=XN (h:=h);unfold Ju;rw[m,bs,p];cases k with
 |false=>exact⟨false,rfl,fun h=>by cases h⟩
 |true=>
 obtain ⟨hf,a⟩:=n rfl;rw[ae (by decide),bs,bs];cases o with
 |false=>exact⟨false,rfl,fun h=>by cases h⟩
 |true=>
 rw [ae (by decide),fj hf s a,bs];by_cases c:(!decide (Mn t s j0=0))=true
 .rw[a6 c];exact⟨true,rfl,fun _=>⟨hf,a⟩⟩
 rw [ae c,BJ (fun i=>(decide (6<((AA j0 i).ec.c9.ca.length:Int)))||(decide (7<((AA j0 i).ec.c9.ci.length:Int)))) false]
 .cases kx (fun i=>(decide (6<((AA j0 i).ec.c9.ca.length:Int)))||(decide (7<((AA j0 i).ec.c9.ci.length:Int)))) 0 j0.length with
  |true=>exact⟨false,rfl,fun h=>by cases h⟩
  |false=>exact⟨_,rfl,fun _=>⟨hf,a⟩⟩
 .intro i g j _;rw[AD g j,bs];cases((decide (6<((AA j0 i).ec.c9.ca.length:Int)))||(decide (7<((AA j0 i).ec.c9.ci.length:Int))))<;>rfl
end
theorem Ug(l:List D8):∃b,ML l=some b/\(b=true->l.length<=35):=by
 unfold ML;by_cases h:((decide ((l.length:Int)<=6))||((decide (30<(l.length:Int)))&&(decide ((l.length:Int)<=35))))=true
 .rw[a6 h,show FJ l N4=some (l.any fun m=>decide (100<(AY ((AY ((m.o3.d3.ca.length:Int)+(m.o3.d3.ci.length:Int)))+(m.o3.fd.length:Int)))))from Dw fun m _=>rfl];refine⟨_,rfl,fun _=>?_⟩;simp only[Bool.or_eq_true,pr,wq]at h;omega
 .rw[ae h];exact⟨false,rfl,fun h=>by cases h⟩
theorem bW{g:FN}(h:(DB g).Sm):(AM g.T).Sm/\∀r∈g.xX,(Bg r).Sm:=by
 have a:TV.xB [_,_,_,_,_]:=h;exact⟨⟨a.1,a.2.1,trivial⟩,(Kv (e:=Bg) a.2.2.2.2.1).2⟩
theorem R2(g:FN)(l:List D8)(b:(DB g).Sm):Gl g l=some true:=by
 obtain ⟨st,c⟩:=bW b;obtain⟨d,e,h⟩:=bc (s:=g.S) st c ⟨⟨[],[]⟩,[]⟩;obtain⟨i,j,k⟩:=Ug l;unfold Gl;rw[Yt,bs,ae (by decide),e,bs,bs];cases d with
 |false=>rfl|true=>
 rw [ae (by decide),j,bs,bs];cases i with
 |false=>rfl|true=>
 obtain ⟨hf,a⟩:=h rfl;have m:=k rfl;rw[ae (by decide),show Gd l=some l from Bs (by unfold Aj;omega),bs,lD hf a,bs,lK hf a,bs,a6 (by simp),mu (Yv hf a l) (Yv hf a l)];simp
theorem R3(g:FN)(x:Cd)(b:(DB g).Sm):Gm g x=some true:=by
 obtain ⟨st,c⟩:=bW b;obtain⟨d,e,i⟩:=bc (s:=g.S) st c ⟨⟨[],[]⟩,[]⟩;obtain⟨j,k,_⟩:=Ug x.xx;obtain⟨m,n,_⟩:=XN (h:=x.wt);unfold Gm;rw[Yt,bs,ae (by decide),e,bs,bs];cases d with
 |false=>rfl|true=>
 rw [ae (by decide),k,bs,bs];cases j with
 |false=>rfl|true=>
 rw [ae (by decide),n,bs,bs];cases m with
 |false=>rfl|true=>
 obtain ⟨hf,a⟩:=i rfl;rw[o8 hf a,bs,pV hf a,bs,bs];split
 .rfl
 .simp
end Go.Sf.Sc
