/- Plain lemmas: what the functions of the program and of the reference compute. -/
import Derived.Test.YtmbomnkcdolalaaGreatSfF
import Derived.Test.YtmbomnkcdolalaaGreatP46
set_option linter.all false
set_option maxRecDepth 100000
namespace Go.Sf.Sc
open Go Go.Sf
def QV(p g:d4)(m:d5):d4:=⟨m.ci.map (AA g.ci),p.d3⟩
variable{l:Fp}
theorem OJ{n x:Int}:x∈BB l n↔(0<=x/\x<n)/\x∉l:=by
 unfold BB;rw[List.mem_filter];constructor
 .grind[Int.natCast_nonneg,CJ]
 .rintro⟨⟨e,f⟩,j⟩;refine⟨List.mem_map.2 ⟨x.toNat,List.mem_range.2 (by omega),Int.toNat_of_nonneg e⟩,?_⟩
  grind [hasB,CJ]
theorem Lb(l:Fp)(n:Int):(BB l n).Pairwise (·<·):=by grind[BB,List.pairwise_lt_range.imp]
def EJ(images hT:Fp):Fp:=(BB hT images.length).map (AA images)
theorem Rt{images hT:Fp}{x:Int}:x∈EJ images hT↔∃i:Int,(0<=i/\i<images.length)/\i∉hT/\AA images i=x:=by grind[EJ,OJ]
def AaG(images hT:Fp):Bool:=og (fun a=>og (fun b=>decide (AA images a=AA images b)&&(!hasB hT a||!hasB hT b)) (a+1) images.length) 0 images.length
variable{a b:Int}
theorem Z0{images hT:Fp}(h:AaG images hT=false)(a0:0<=a)(a1:a<images.length)(u:0<=b)(q:b<images.length)(w:a∈hT)(e:AA images a=AA images b):b∈hT:=by
 unfold AaG at h;rw[Bb]at h;by_cases j:a=b
 .exact j▸w
 by_cases y:a<b
 .have f:=h a a0 a1;rw[Bb]at f;have o:=f b (by omega) q;rw[decide_eq_true e,Bool.true_and,Bool.or_eq_false_iff]at o
  grind [CJ]
 .have f:=h b u q;rw[Bb]at f;have o:=f a (by omega) a1;rw[decide_eq_true e.symm,Bool.true_and,Bool.or_eq_false_iff]at o
  grind [CJ]
variable{i:Int}
theorem Rv{images hT:Fp}(h:AaG images hT=false)(e:0<=i)(f:i<images.length)(j:i∈hT):AA images i∉EJ images hT:=by grind[Rt,Z0]
def Lt(g:d4)(hT:BA)(m:d5)(i:Int):Bool:=
 !hasB m.d3 i&&(hasB (EJ m.ci hT.ci) (AA g.d3 i).ns||hasB (EJ m.ci hT.ci) (AA g.d3 i).To)
def LC(g:d4)(hT:BA)(m:d5):BA:=⟨BB (EJ m.ci hT.ci) g.ci.length,BB (EJ m.d3 hT.d3) g.d3.length⟩
def Lq(l g:d4)(hT:BA)(m:d5):BA×Int:=
 if IJ l g m≠0 then(⟨[],[]⟩,IJ l g m)else if EL l hT≠0 then(⟨[],[]⟩,EL l hT)else
 if (AaG m.ci hT.ci||AaG m.d3 hT.d3)=true then(⟨[],[]⟩,15)else
 if og (Lt g hT m) 0 g.d3.length=true then(⟨[],[]⟩,14)else(LC g hT m,0)
structure WZ(l g:d4)(hT:BA)(m:d5):Prop where
 mor:WG l g m
 part:Wc l hT
 ec:AaG m.ci hT.ci=false
 ek:AaG m.d3 hT.d3=false
 free:∀i:Int,0<=i->i<g.d3.length->Lt g hT m i=false
variable{g:d4}
theorem eo{p:BA}(h:EL g p=0):Bt g=0/\M7 g p=0:=by grind[EL]
theorem Up{l g:d4}{hT:BA}{m:d5}(h:(Lq l g hT m).2=0):WZ l g hT m/\Lq l g hT m=(LC g hT m,0):=by
 unfold Lq at h|-;split at h
 .grind
 rename_i f;rw[ae f];split at h
 .grind
 rename_i j;rw[ae j];split at h
 .grind
 rename_i e;rw[ae e];split at h
 .grind
 rename_i o;rw[ae o];simp only[Bool.or_eq_true,not_or,Bool.not_eq_true]at e;exact⟨⟨SX (Classical.not_not.1 f),UU (eo (Classical.not_not.1 j)).2,e.1,e.2,Bb.1 (by simpa using o)⟩,rfl⟩
theorem cm{l g:d4}{hT:BA}{m:d5}(h:WZ l g hT m):M7 g (LC g hT m)=0:=by
 have w:=h.mor;have H:=w.gb;have I:∀x∈(LC g hT m).ci,0<=x/\x<g.ci.length:=fun x o=>He o;have J:∀x∈(LC g hT m).d3,0<=x/\x<g.d3.length:=fun x o=>He o;have j:∀{l:Fp}{n:Int},(∀x∈l,0<=x/\x<n)->l.Pairwise (·<·)->Oe l n=0:=by
  grind [Oe,CI,AK,Kh]
 unfold M7;rw[j I (Lb _ _),j J (Lb _ _)];simp only[ne_eq,not_true_eq_false,if_false];rw[CI.2 fun i F G=>?_]
 .rfl
 have o:=AK F G;generalize AA (LC g hT m).d3 i=x at o;have f:(0<=x/\x<g.d3.length)/\x∉EJ m.d3 hT.d3:=OJ.1 o;have hf:=H.fit _ (AK f.1.1 f.1.2);have y:(AA g.d3 x).ns∉EJ m.ci hT.ci/\(AA g.d3 x).To∉EJ m.ci hT.ci:=by
  by_cases hi:x∈m.d3
  .obtain⟨k,D,E,e⟩:=BW hi;have q:k∈hT.d3:=by
    by_cases q:k∈hT.d3
    .exact q
    .exact absurd (Rt.2 ⟨k,⟨D,E⟩,q,e⟩) f.2
   have ends:=h.part.ends k q;have he:=w.edge k D E;rw[e]at he;have z:=h.part.ec.1;have K:=z _ ends.1;have N:=z _ ends.2;have P:=w.AaR;rw[<-he.2.2.1,<-he.2.2.2];exact⟨Rv h.ec K.1 (by omega) ends.1,Rv h.ec N.1 (by omega) ends.2⟩
  .have hd:=h.free x f.1.1 f.1.2;unfold Lt at hd;rw[show hasB m.d3 x=false from by cases O:hasB m.d3 x with|false=>rfl|true=>exact absurd (CJ.1 O) hi,Bool.not_false,Bool.true_and,Bool.or_eq_false_iff]at hd;exact⟨fun u=>by rw[CJ.2 u]at hd;exact absurd hd.1 (by decide),fun u=>by rw[CJ.2 u]at hd;exact absurd hd.2 (by decide)⟩
 grind [hasB,LC,AA,CJ,OJ]
def Gt(n:Nat)(l:Fp):Fp:=(Ax n).map (Cw l)
variable{v:Int}
theorem Uv(h:v∉l):Cw l v=-1:=by grind[Cw,CI,AK]
theorem SW(l:Fp)(v:Int):-1<=Cw l v/\Cw l v<l.length:=by
 by_cases h:v∈l
 .have:=IH h;omega
 .rw[Uv h];omega
theorem L0:0<=Cw l v↔v∈l:=by grind[Uv,IH]
theorem Lf(n:Nat)(l:Fp):(Gt n l).length=n:=by unfold Gt;rw[c8,BG]
variable{n:Nat}
theorem TZ(e:0<=i)(f:i<n):AA (Gt n l) i=Cw l i:=IT _ e f
theorem XD(h:l.Nodup)(e:0<=i)(f:i<l.length):Cw l (AA l i)=i:=by
 have j:=IH (AK e f)
 grind [Cw,AA,Kh]
def Og(hT into at_:Fp)(n i:Int):Int:=if hasB into i=true then AA at_ (AA hT (Cw into i))else n+(BB into i).length
def Rh(count:Nat)(hT into at_:Fp)(n:Int):Fp:=(Ax count).map (Og hT into at_ n)
theorem Uo(count:Nat)(hT into at_:Fp)(n:Int):(Rh count hT into at_ n).length=count:=by unfold Rh;rw[c8,BG]
variable{count:Nat}
theorem bR{hT into at_:Fp}{n i:Int}(e:0<=i)(f:i<count):AA (Rh count hT into at_ n) i=Og hT into at_ n i:=IT _ e f
theorem JR(h:0<=i):((BB l i).length:Int)<=i:=by grind[PQ]
end Go.Sf.Sc
namespace Go.Sf.Sc
open Go Go.Sf
variable{α:Type}
theorem X2{P:List α->Prop}(e:P [])(f:∀l a,P l->P (l++[a]))(l:List α):P l:=by
 have:∀l:List α,P l.reverse:=by
  intro l
  induction l with
  |nil=>exact e|cons a l j=>rw[List.reverse_cons];exact f _ _ j
 rw [<-List.reverse_reverse l];exact this _
def N2(L:BE):BE:=L.foldl (fun m p=>m.set p.1 p.2) []
theorem XK(L:BE)(p:(Int×Int)×Int):N2 (L++[p])=(N2 L).set p.1 p.2:=by
 unfold N2
 grind
def P8(L:BE):Prop:=∀p∈L,∀q∈L,p.1=q.1->p.2=q.2
variable{k:Int×Int}{v:Int}
theorem Rw:∀{m:BE},m.look k=some v->(k,v)∈m
 |[],h=>by cases h
 |p::r,h=>by
  unfold BE.look at h;split at h
  .grind
  .exact List.mem_cons_of_mem _ (Rw h)
theorem Ve:∀{m:BE},m.look k=none->∀p∈m,p.1≠k
 |[],_,p,f=>by cases f
 |q::r,h,p,f=>by
  unfold BE.look at h;split at h
  .cases h
  .rename_i e;rcases List.mem_cons.1 f with rfl|f
   .exact e
   .exact Ve h p f
theorem ZL:∀{m:BE},m.look k=none->m.set k v=m++[(k,v)]
 |[],_=>rfl|p::r,h=>by
  unfold BE.look at h;unfold BE.set;split at h
  .cases h
  .rename_i e;rw[ae e,ZL h];rfl
theorem Xy:∀{m:BE},m.look k=some v->m.set k v=m
 |[],h=>by cases h
 |p::r,h=>by
  unfold BE.look at h;unfold BE.set;split at h
  .grind
  .rename_i e;rw[ae e,Xy h]
theorem Zv(V:List Fp)(p:(Int×Int)×Int):CS (CS V p) p=CS V p:=by
 unfold CS;split
 .apply List.ext_getElem?
  grind [Option.map_eq_map,Option.map_map,List.set_set]
 .rfl
theorem eF{m:BE}(hd:m.Dis){p:(Int×Int)×Int}(e:p∈m)(V:List Fp):CS (m.foldl CS V) p=m.foldl CS V:=by
 have f:m.Perm (m.erase p++[p]):=(List.perm_cons_erase e).trans (List.perm_append_singleton p (m.erase p)).symm;rw[<-Ty hd f V,List.foldl_append];exact Zv _ _
theorem P8.sub{L M:BE}(h:P8 L)(e:∀p∈M,p∈L):P8 M:=fun p f q j=>h p (e p f) q (e q j)
theorem Y4(L:BE):P8 L->(N2 L).Dis/\(∀p,p∈N2 L↔p∈L)/\∀V,(N2 L).foldl CS V=L.foldl CS V:=by
 refine X2 (P:=fun L=>P8 L->(N2 L).Dis/\(∀p,p∈N2 L↔p∈L)/\∀V,(N2 L).foldl CS V=L.foldl CS V) (fun _=>⟨List.Pairwise.nil,fun p=>Iff.rfl,fun V=>rfl⟩) (fun L p f e=>?_) L;obtain⟨y,w,z⟩:=f (e.sub fun q j=>List.mem_append_left _ j);rw[XK];cases o:(N2 L).look p.1 with
 |none=>
  grind [ZL,BE.set_dis]
 |some v=>
  have u:=Rw o;have hv:v=p.2:=e (p.1,v) (List.mem_append_left _ ((w _).1 u)) p (by simp) rfl
  grind [Xy,List.mem_singleton,eF]
def N8(L:BE):Bool:=og (fun i=>og (fun k=>decide ((AA L k).1=(AA L i).1)&&!decide ((AA L k).2=(AA L i).2)) 0 i) 0 L.length
variable{L:BE}
theorem VF(h:N8 L=false):P8 L:=by
 intro p o q u e;obtain⟨a,a0,a1,rfl⟩:=BW o;obtain⟨b,w,y,rfl⟩:=BW u;unfold N8 at h;rw[Bb]at h;by_cases f:a=b
 .rw[f]
 by_cases z:a<b
 .have j:=h b w y;rw[Bb]at j
  grind
 .have j:=h a a0 a1;rw[Bb]at j
  grind
theorem eH(L:BE)(V:List Fp):LQ (L.foldl CS V) V:=by
 induction L generalizing V with
 |nil=>rfl|cons p r e=>exact(e (CS V p)).trans (VL V p)
end Go.Sf.Sc
namespace Go.Sf.Sc
open Go Go.Sf
variable{t:AC}{p g:d4}{inj:Bool}
theorem Re{m:d5}(h:F4 t p g m inj=0):FW t p g=0/\NO t p g m=0/\VA t p g m:=by grind[Wo,F4]
theorem bQ{m:d5}(h:F4 t p g m inj=0):F4 t p g m false=0:=by grind[Re,F4]
variable{α:Type}
theorem SM[Inhabited α](l:List α):(Ax l.length).map (AA l)=l:=by grind[bN,c8,BG,IT]
variable{β:Type}
theorem mB[Inhabited α](l:List α)(f:α->β):l.map f=(Ax l.length).map fun j=>f (AA l j):=by
 rw [show(fun j=>f (AA l j))=f∘AA l from rfl,<-List.map_map,SM]
theorem mP(hf:As t){m:d5}(h:F4 t p g m inj=0):D2 t p g m=some (QV p g m,0):=by
 obtain ⟨e,q,f⟩:=Re h;obtain⟨_,j,y,_⟩:=Mj e;unfold D2;rw[U2 hf,bs,ae (by simp[e]),Vj hf e,bs,ae (by simp[q])];unfold Cr;have:=j.ec;have:=j.ek;have:=f.AaR;rw[BD (by unfold Ad;omega),bs];rw[QR (by omega) (fun x o=>?_) p.d3]
 .rfl
 .obtain⟨i,u,w,rfl⟩:=BW o;exact(f.node i u w).1
theorem mt(hf:As t){m:d5}(h:F4 t p g m inj=0):IN t p g m=some (QV p g m,0):=by
 obtain ⟨y,D,u⟩:=Re h;obtain⟨_,w,E,_⟩:=Mj y;have:=w.ec;have:=w.ek;have z:=u.AaR;unfold IN IL;rw[U4 hf,bs,ae (by simp[bQ h]),BD (by unfold Ad;omega),bs,BD (by unfold Ad;omega),bs,bs];rw[Ox (fun i=>d4.mk ((Ax p.ci.length).map fun j=>if j<i then AA g.ci (AA m.ci j)else AA p.ci j) p.d3) (a:=0) (b:=p.ci.length) (by omega)]
 .have e:((Ax p.ci.length).map fun j=>if j<(p.ci.length:Int)then AA g.ci (AA m.ci j)else AA p.ci j)=m.ci.map (AA g.ci):=by
   grind [mB,Cs]
  rw [e];rfl
 .congr 1;rw[<-SM p.ci,c8,BG]
  grind [Cs,SM]
 .intro i f o;have q:=u.node i f (by omega);simp only[c8,BG];rw[a6 (by simpa using o),AD f (by omega),bs,AD q.1.1 q.1.2,bs,AD f (by rw[c8,BG];exact o),bs,If _ f,Ao (by omega) (by omega)]
  grind
 grind [c8,BG]
variable{n:Nat}
theorem NW{f:Int->List α->Option (List α)}(q:Int->Bool)(F:Int->α)(h:∀i s,0<=i->i<(n:Int)->s.length<=i.toNat->f i s=some (if q i=true then s++[F i]else s)):sx f 0 n []=some (((Ax n).filter q).map F):=by
 have e:∀k:Nat,(((Ax k).filter q).map F).length<=k:=fun k=>by
  rw [c8];exact Nat.le_trans (List.length_filter_le _ _) (by rw[BG];exact az _)
 have:=B1 (f:=f) (s:=[]) (fun i=>((Ax i.toNat).filter q).map F) (a:=0) (b:=n) (by omega) rfl (fun i j o=>by
  grind [FV])
 grind
theorem W4{q:Int->Bool}{F:Int->α}:decide (0<((((Ax n).filter q).map F).length:Int))=og q 0 n:=by
 rw [Bool.eq_iff_iff,zzX,Dt,c8];constructor
 .intro h;have f:(Ax n).filter q≠[]:=fun e=>by rw[e]at h;simp at h
  obtain ⟨x,w⟩:=List.exists_mem_of_ne_nil _ f
  grind [FL]
 .rintro⟨i,j,o,u⟩;have:i∈(Ax n).filter q:=List.mem_filter.2 ⟨FL.2 ⟨j,o⟩,u⟩
  grind
theorem b8{x:Ba}(e:x.m.ci.length<=1000):C3 x=some (EJ x.m.ci x.hT.ci):=by
 unfold C3;rw[NW (fun i=>!hasB x.hT.ci i) (AA x.m.ci)]
 .rfl
 grind [AD,Kb,hasB,Ai,Ad]
theorem TO{images hT:Fp}(e:images.length<=1000):Iv images hT=some (EJ images hT):=by
 unfold Iv;rw[NW (fun i=>!hasB hT i) (AA images)]
 .rfl
 grind [Da,hasB,Mk,AD,Ai,Ad]
theorem aJ{x:Ba}(e:x.m.ci.length<=1000)(he:x.g.d3.length<=1000):Cv x=some ((Ax x.g.d3.length).filter (Lt x.g x.hT x.m)):=by
 unfold Cv;rw[b8 e,bs,NW (Lt x.g x.hT x.m) id]
 .rw[bs,List.map_id]
 .intro i s f j o;rw[AD f j,bs,Kb,bs,Kb,bs,Kb,bs];unfold Lt;change (if(!hasB x.m.d3 i)=true then(if hasB (EJ x.m.ci x.hT.ci) (AA x.g.d3 i).ns=true then some true else some (hasB (EJ x.m.ci x.hT.ci) (AA x.g.d3 i).To)).bind _ else some false).bind _=_;cases hasB x.m.d3 i<;>cases hasB (EJ x.m.ci x.hT.ci) (AA x.g.d3 i).ns<;>cases hasB (EJ x.m.ci x.hT.ci) (AA x.g.d3 i).To<;>simp[Ai (show s.length+[i].length<=Ad by simp;unfold Ad;omega)]
theorem aO{l g:d4}{hT:BA}{m:d5}(e:m.ci.length<=1000)(he:g.d3.length<=1000):IM l g hT m=some ((Ax g.d3.length).filter (Lt g hT m)):=by
 unfold IM;rw[TO e,bs,NW (Lt g hT m) id]
 .rw[bs,List.map_id]
 .intro i s f j o;have hh:∀(l:Fp)(v:Int),Da l v=some (hasB l v):=Mk;simp only[AD f j,bs,hh];unfold Lt;cases hasB m.d3 i<;>cases hasB (EJ m.ci hT.ci) (AA g.d3 i).ns<;>cases hasB (EJ m.ci hT.ci) (AA g.d3 i).To<;>simp[Ai (show s.length+[i].length<=Ad by simp;unfold Ad;omega)]
variable{a i:Int}
theorem O1{p:Int->Bool}(h:a<=i):og p a (i+1)=(og p a i||p i):=by
 rw [Bool.eq_iff_iff,Bool.or_eq_true,Dt,Dt]
 grind
theorem UT{images hT:Fp}(I:images.length<=100){f:Int->Int->List F1->Option (List F1)}(hf:∀(i j:Int)s,0<=i->i<images.length->i<j->j<images.length->s.length<=20000->f i j s=some (if(decide (AA images i=AA images j)&&(!hasB hT i||!hasB hT j))=true then s++[F1.mk i j]else s)):
  ∃l,sx (fun(e:Int)(q:List F1)=>(sx (fun(o:Int)(s2:List F1)=>f e o s2) (Af (e+1)) (images.length:Int) q).bind fun s2=>some s2) 0 (images.length:Int) []=some l/\l.length<=10000/\decide (0<l.length)=AaG images hT:=by
 have key:=QM (f:=fun(e:Int)(q:List F1)=>(sx (fun(o:Int)(s2:List F1)=>f e o s2) (Af (e+1)) (images.length:Int) q).bind fun s2=>some s2) (s:=[])
  (fun i s=>(s.length:Int)<=100*i/\decide (0<s.length)=og (fun a=>og (fun b=>decide (AA images a=AA images b)&&(!hasB hT a||!hasB hT b)) (a+1) images.length) 0 i) (a:=0) (b:=images.length) (by omega)
  (by refine⟨by simp,?_⟩;rw[Bb.2 (fun i y z=>by omega)];rfl) (fun i s e D E=>by
   have u:=QM (f:=fun(o:Int)(s2:List F1)=>f i o s2) (s:=s)
    (fun j s'=>(s'.length:Int)<=100*i+(j-(i+1))/\decide (0<s'.length)=(decide (0<s.length)||og (fun b=>decide (AA images i=AA images b)&&(!hasB hT i||!hasB hT b)) (i+1) j)) (a:=i+1) (b:=images.length) (by omega)
    (by refine⟨by have:=E.1;omega,?_⟩;rw[Bb.2 (fun i y z=>by omega),Bool.or_false]) (fun j s' J F w=>by
     refine ⟨_,hf i j s' e D (by omega) F (by have:=w.1;omega),?_,?_⟩
     .grind
     .rw[O1 (by omega),<-Bool.or_assoc,<-w.2]
      grind)
   grind [Ao,O1])
 obtain ⟨l,G,K,H⟩:=key;exact⟨l,G,by omega,H⟩
theorem ZA{images hT:Fp}(F:images.length<=100):∃l,FB images hT=some l/\l.length<=10000/\decide (0<l.length)=AaG images hT:=by
 unfold FB;obtain⟨l,K,N⟩:=UT (hT:=hT) F (f:=fun e o s2=>
  (idx images e).bind fun q=>
  (idx images o).bind fun u=>
  (if(decide (q=u))=true then((slices_Contains_int hT e).bind fun w=>
  (if(!w)=true then some true else((slices_Contains_int hT o).bind fun y=>
  some (!y))).bind fun z=>
  some (z))else some false).bind fun D=>
  if D=true then
  (Ag s2 [F1.mk e o]).bind fun E=>
  some E
  else
  some s2) (fun i j s e G I H J=>by
   have hh:∀(l:Fp)(v:Int),slices_Contains_int l v=some (hasB l v):=Kb;simp only[AD e G,AD (show 0<=j by omega) H,bs,hh]
   grind [AA,hasB,Ai,Ad])
 grind
theorem ZJ{images hT:Fp}(F:images.length<=100):∃l,FI images hT=some l/\l.length<=10000/\decide (0<l.length)=AaG images hT:=by
 unfold FI;obtain⟨l,K,N⟩:=UT (hT:=hT) F (f:=fun e o s2=>
  (idx images e).bind fun q=>
  (idx images o).bind fun u=>
  (if(decide (q=u))=true then((Da hT e).bind fun w=>
  (if(!w)=true then some true else((Da hT o).bind fun y=>
  some (!y))).bind fun z=>
  some (z))else some false).bind fun D=>
  if D=true then
  (Ag s2 [F1.mk e o]).bind fun E=>
  some E
  else
  some s2) (fun i j s e G I H J=>by
   have hh:∀(l:Fp)(v:Int),Da l v=some (hasB l v):=Mk;simp only[AD e G,AD (show 0<=j by omega) H,bs,hh]
   grind [AA,hasB,Ai,Ad])
 grind
variable{l:Fp}
theorem Xm(h:n<=1000):KK n l=some (BB l n):=by
 unfold KK;rw[SD (f:=Da l) (by omega) (by omega) (fun i=>Mk l i)];rfl
theorem Xb{images hT:Fp}(y:n<=1000)(hi:∀x∈images,0<=x/\x<n):Fo n images hT=some (BB (EJ images hT) n):=by
 unfold Fo IZ;rw[a6 (by omega),bs];rw[B1 (fun i=>(Ax n).map fun k=>og (fun j=>!hasB hT j&&decide (AA images j=k)) 0 i) (by omega)]
 .rw[bs,c8,BG,NW (fun i=>!hasB (EJ images hT) i) id]
  .rw[bs,List.map_id];rfl
  .intro i s f o E;rw[AD f (by rw[c8,BG];exact o),bs,IT _ f o];have e:og (fun j=>!hasB hT j&&decide (AA images j=i)) 0 images.length=hasB (EJ images hT) i:=by
    rw [Bool.eq_iff_iff,Dt,CJ,Rt];constructor
    .rintro⟨j,u,w,h⟩;rw[pc,zzX]at h
     grind [CJ]
    .rintro⟨j,⟨u,w⟩,G,h⟩;refine⟨j,u,w,?_⟩;rw[pc,zzX]
     grind [hasB,CJ]
   grind [hasB,EJ,Ai,Ad]
 .refine List.ext_getElem (by simp[BG]) (fun k z D=>?_)
  grind [Int.toNat_natCast,Bb]
 .intro i f o;have q:=hi _ (AK f o);have hh:∀(l:Fp)(v:Int),slices_Contains_int l v=some (hasB l v):=Kb;rw[AD f o,bs,hh,bs];cases F:hasB hT i
  .rw[a6 (by decide),AD q.1 (by rw[c8,BG];exact q.2),bs,If _ q.1]
   grind [Cs,O1,AA]
  grind [Cs,O1]
theorem ZT{a b:Nat}(e:a<=10000)(f:b<=10000):decide (0<Af ((a:Int)+(b:Int)))=(decide (0<a)||decide (0<b)):=by
 rw [Ao (by omega) (by omega),Bool.eq_iff_iff,Bool.or_eq_true]
 grind
theorem mJ{l g:d4}{hT:BA}{m:d5}(z:PV hT):E2 l g hT m=some (Lq l g hT m):=by
 unfold E2 CN Lq;simp only[];rw[WL,bs,ZB z,bs];by_cases j:¬IJ l g m=0
 .grind
 have j:=Classical.not_not.1 j;rw[ae (by simp[j]),bs,ae (show¬IJ l g m≠0 by simp[j])];refine Ef fun K=>?_;have f:=SX j;have a1:=f.ga.ec;have P:=f.ga.ek;have Q:=f.AaR;have S:=f.Abg;have U:=f.gb.ec;have V:=f.gb.ek;unfold DH;obtain⟨u,D,E,G⟩:=ZA (hT:=hT.ci) (images:=m.ci) (by omega);obtain⟨v,H,I,J⟩:=ZA (hT:=hT.d3) (images:=m.d3) (by omega);simp only[];rw[D,bs,H,bs,bs];simp only[];rw[ZT E I,G,J];refine Wn fun N=>?_;rw[aJ (by show m.ci.length<=1000;omega) (by show g.d3.length<=1000;omega),bs];have e:=W4 (n:=g.d3.length) (q:=Lt g hT m) (F:=id);rw[List.map_id]at e;rw[e];refine Wn fun O=>?_;rw[Xb (by omega) (fun x o=>?_),bs,Xb (by omega) (fun x o=>?_),bs]
 .rfl
 .obtain⟨i,w,y,rfl⟩:=BW o;exact(f.edge i w y).1
 .obtain⟨i,w,y,rfl⟩:=BW o;exact(f.node i w y).1
theorem mg{l g:d4}{hT:BA}{m:d5}(o:PV hT):Oq l g hT m=some (Lq l g hT m):=by
 unfold Oq NE Lq;rw[WU,bs,U5 o,bs];by_cases j:¬IJ l g m=0
 .grind
 have j:=Classical.not_not.1 j;rw[ae (by simp[j]),bs,ae (show¬IJ l g m≠0 by simp[j])];refine Ef fun H=>?_;have f:=SX j;have a1:=f.ga.ec;have K:=f.ga.ek;have N:=f.AaR;have O:=f.Abg;have P:=f.gb.ec;have Q:=f.gb.ek;obtain⟨u,w,y,z⟩:=ZJ (hT:=hT.ci) (images:=m.ci) (by omega);obtain⟨v,D,E,G⟩:=ZJ (hT:=hT.d3) (images:=m.d3) (by omega);rw[w,bs,D,bs,ZT y E,z,G];refine Wn fun I=>?_;rw[aO (by omega) (by omega),bs];have e:=W4 (n:=g.d3.length) (q:=Lt g hT m) (F:=id);rw[List.map_id]at e;rw[e];refine Wn fun J=>?_;rw[TO (by omega),bs,Xm (by omega),bs,TO (by omega),bs,Xm (by omega),bs];rfl
end Go.Sf.Sc
namespace Go.Sf.Sc
open Go Go.Sf
variable{α β:Type}
theorem TI[Inhabited α]{l:List α}{F:α->β}{f:Int->List β->Option (List β)}(h:∀(i:Int)s,0<=i->i<l.length->s.length<=i.toNat->f i s=some (s++[F (AA l i)])):sx f 0 l.length []=some (l.map F):=by
 have:=B1 (f:=f) (s:=[]) (fun i=>(l.take i.toNat).map F) (a:=0) (b:=l.length) (by omega) (by simp) (fun i e j=>by
  grind [c8,cE,Ch])
 rwa [Int.toNat_natCast,List.take_length]at this
variable{n:Nat}{l:Fp}
theorem ZC(G:n<=1000)(y:l.length<=1000)(o:l.Pairwise (·<·)):KP n l=some (Gt n l):=by
 unfold KP IZ;rw[a6 (by omega),bs,Int.toNat_natCast,List.length_replicate,B1 (fun i=>(Ax n).map fun j=>if j<i then Cw l j else 0) (by omega)]
 .rw[bs];congr 1;exact Cs fun j z q=>a6 q
 .refine List.ext_getElem (by simp[BG]) (fun k D H=>?_);have e:(Ax n)[k]'(by simpa[BG]using D)=(k:Int):=by simp[Ax]
  simp only[List.getElem_map,List.getElem_replicate,e];rw[ae (by omega)]
 .intro i u F;rw[Qf y o,bs,AD u (by rw[c8,BG];exact F),bs];have e:∀v:Int,v=Cw l i->some (BI ((Ax n).map fun j=>if j<i then Cw l j else 0) i v)=some ((Ax n).map fun j=>if j<i+1 then Cw l j else 0):=by
   rintro v rfl;rw[If _ u];congr 1;refine Cs fun j z q=>?_;by_cases e:j=i
   .rw[a6 e,a6 (by omega),e]
   .rw[ae e];by_cases w:j<i
    .rw[a6 w,a6 (by omega)]
    .rw[ae w,ae (by omega)]
  cases f:hasB l i with
  |false=>
   rw [a6 (by rfl)];exact e _ (Uv fun E=>by rw[CJ.2 E]at f;cases f).symm
  |true=>
   rw [ae (by simp)];exact e _ (TC o (CJ.1 f))
theorem Xf(J:n<=1000)(K:l.length<=1000)(E:l.Nodup):KJ l n=some (Gt n l):=by
 unfold KJ;rw[B1 (fun k=>(Ax k.toNat).map (Cw l)) (by omega) (by rfl)]
 .rfl
 .intro k q N;have o:((Ax k.toNat).map (Cw l)).length=k.toNat:=by rw[c8,BG]
  have I:(Ax k.toNat).map (Cw l)++[-1]=(Ax (k+1).toNat).map fun j=>if j<k then Cw l j else if Cw l k<0 then Cw l k else -1:=by
   rw [FV q,List.map_append];congr 1
   .grind[List.map_congr_left,FL]
   .rw[List.map_singleton,ae (by omega)];have:=SW l k
    grind
  rw [Ai (by rw[o];simp;unfold Ad;omega),bs,I,B1 (fun i=>(Ax (k+1).toNat).map fun j=>if j<k then Cw l j else if Cw l k<i then Cw l k else -1) (by omega) rfl]
  .rw[bs];congr 1;refine List.map_congr_left fun j F=>?_;have:=FL.1 F;split
   .rfl
   .have e:j=k:=by omega
    rw [a6 (SW l k).2,e]
  .intro i u w;rw[AD u w,bs];by_cases e:AA l i=k
   .have y:Cw l k=i:=by rw[<-e];exact XD E u w
    rw [a6 (by simp[e]),AD q (by rw[c8,BG];omega),bs,If _ q];congr 1;refine Cs fun j G H=>?_;by_cases z:j=k
    .rw[a6 z,ae (by omega),a6 (by omega),y]
    .rw[ae z];by_cases f:j<k
     .rw[a6 f,a6 f]
     .omega
   .have y:Cw l k≠i:=fun h=>by
     have:=(IH (L0.1 (show 0<=Cw l k by omega))).2.2.1;rw[h]at this;exact e this
    rw [ae (by simp[e])];congr 1;refine Cs fun j G H=>?_;by_cases f:j<k
    .rw[a6 f,a6 f]
    .rw[ae f,ae f];by_cases D:Cw l k<i
     .rw[a6 D,a6 (by omega)]
     .rw[ae D,ae (by omega)]
structure SR(count:Nat)(hT into at_:Fp):Prop where
 few:count<=1000
 nodup:into.Nodup
 len:into.length=hT.length
 inn:∀x∈into,0<=x/\x<count
 kin:∀x∈hT,0<=x/\x<at_.length
 pos:∀x∈hT,0<=AA at_ x
theorem XL(e:l.Nodup)(h:∀x∈l,0<=x/\x<n):l.length<=n:=by
 have:=List.Nodup.length_le_of_subset (l₁:=l) (l₂:=Ax n) e (fun x f=>FL.2 (h x f))
 rwa [BG]at this
variable{i:Int}
theorem OK(h:0<=i):((BB l (i+1)).length:Int)=(BB l i).length+if i∈l then 0 else 1:=by grind[MP,bk,hasB,CJ]
theorem Pj{hT into at_:Fp}{n i:Int}(h:i∈into):Og hT into at_ n i=AA at_ (AA hT (Cw into i)):=by grind[Og,CJ]
theorem QF{hT into at_:Fp}{n i:Int}(h:i∉into):Og hT into at_ n i=n+(BB into i).length:=by grind[Og,CJ]
variable{count:Nat}
theorem Vo{hT into at_:Fp}{n:Int}(h:SR count hT into at_)(z:0<=n)(D:n<=1000):E7 hT into count at_ n=some (Rh count hT into at_ n):=by
 have E:=h.few;have u:=XL h.nodup h.inn;have w:=h.len;unfold E7;rw[Xf h.few (by omega) h.nodup,bs,B1 (fun i=>(n+((BB into i).length:Int),(Ax i.toNat).map (Og hT into at_ n))) (by omega) (by simp[BB,Ax])]
 .rfl
 .intro i f q;have F:=JR (l:=into) f;have e:((Ax i.toNat).map (Og hT into at_ n)).length=i.toNat:=by rw[c8,BG]
  rw [AD f (by rw[Lf];exact q),bs,TZ f q];by_cases hi:i∈into
  .have o:=IH hi;have y:=AK (l:=hT) o.1 (by omega);have j:=h.kin _ y;rw[a6 (by simpa using o.1),bs,AD o.1 (by omega),bs,AD j.1 j.2,bs,Ai (by rw[e];simp;unfold Ad;omega),bs,FV f,List.map_append,OK f,a6 hi,Int.add_zero,List.map_singleton,Pj hi]
  .rw[ae (by rw[zzX,L0];exact hi),Ai (by rw[e];simp;unfold Ad;omega),bs,FV f,List.map_append,OK f,ae hi,List.map_singleton,QF hi,Ao (by omega) (by omega),Int.add_assoc]
theorem Vi{hT into f o:Fp}{n:Int}(h:SR count hT into (f.map (AA o)))(J:∀x∈f,0<=x/\x<o.length)(S:0<=n)(U:n<=1000):Fg count hT into f o n=some (Rh count hT into (f.map (AA o)) n):=by
 have X:=h.few;have K:=XL h.nodup h.inn;have N:=h.len;unfold Fg Du;rw[a6 (by refine⟨rfl,by omega,by omega⟩),bs,Int.toNat_natCast];rw[B1 (fun i=>(Ax count).map fun k=>if 0<=Cw into k/\Cw into k<i then Og hT into (f.map (AA o)) n k else -1) (by omega)]
 .rw[bs,c8,BG,B1 (fun i=>(n+((BB into i).length:Int),(Ax count).map fun k=>if k<i\/k∈into then Og hT into (f.map (AA o)) n k else -1)) (by omega)]
  .rw[bs];congr 1;exact Cs fun j G E=>a6 (.inl E)
  .show _=(n,_);congr 1
   .simp[BB]
   .refine Cs fun j G E=>?_;have I:=L0 (l:=into) (v:=j);have O:=SW into j;by_cases e:j∈into
    .rw[a6 (.inr e),a6 ⟨I.2 e,O.2⟩]
    .rw[ae (by rintro(q|q);omega;exact e q),ae fun q=>e (I.1 q.1)]
  .intro i w z;have Y:=JR (l:=into) w;rw[AD w (by rw[c8,BG];exact z),bs,IT _ w z];by_cases hi:i∈into
   .have P:=IH hi;have H:=AK (l:=hT) P.1 (by have:=h.len;omega);have Z:=h.pos _ H;rw[a6 (show i<i\/i∈into from .inr hi),Pj hi,ae (by rw[zzX];omega),OK w,a6 hi,Int.add_zero];congr 2;refine Cs fun j G E=>?_;by_cases e:j<i\/j∈into
    .rw[a6 e,a6 (e.imp (fun h=>by omega) id)]
    .rw[ae e,ae];rintro(q|q)
     .have:j=i:=by
       have:=fun hh=>e (.inl hh);omega
      exact e (.inr (this▸hi))
     .exact e (.inr q)
   .rw[ae (show¬(i<i\/i∈into)by rintro(q|q);omega;exact hi q),a6 (by decide),bs,OK w,ae hi,Ao (by simp only[];omega) (by simp only[];omega),If _ w,Int.add_assoc];congr 2;refine Cs fun j G E=>?_;by_cases y:j=i
    .rw[a6 y,a6 (.inl (by omega)),y,QF hi]
    .rw[ae y];by_cases e:j<i\/j∈into
     .rw[a6 e,a6 (e.imp (fun h=>by omega) id)]
     .rw[ae e,ae];rintro(q|q)
      .exact e (.inl (by omega))
      .exact e (.inr q)
 .refine List.ext_getElem (by simp[BG]) (fun k V W=>?_);simp only[List.getElem_map,List.getElem_replicate];rw[ae (by omega)];rfl
 .intro i w z;have D:=h.inn _ (AK w z);have H:=AK (l:=hT) w (by have:=h.len;omega);have u:=h.kin _ H;rw[c8]at u;have F:=J _ (AK u.1 u.2);rw[AD w z,bs,AD w (by have:=h.len;omega),bs,AD u.1 u.2,bs,AD F.1 F.2,bs,AD D.1 (by rw[c8,BG];exact D.2),bs,If _ D.1];congr 1;refine Cs fun j G E=>?_;by_cases y:j=AA into i
  .have e:=XD h.nodup w z;rw[a6 y,y,e,a6 ⟨w,by omega⟩,Pj (AK w z),e,NV u.1 u.2]
  .rw[ae y];by_cases e:0<=Cw into j/\Cw into j<i
   .rw[a6 e,a6 ⟨e.1,by omega⟩]
   .rw[ae e,ae];rintro⟨q,h2⟩;have Q:Cw into j=i:=by
     have:=fun hh=>e ⟨q,hh⟩;omega
    have:=(IH (L0.1 q)).2.2.1;rw[Q]at this;exact y this.symm
theorem UX{images e:Fp}(f:images.length<=1000)(j:∀x∈images,0<=x/\x<e.length):Gc images e=some (images.map (AA e)):=by
 unfold Gc
 grind [TI,AA,AK,AD,Ai,Ad]
end Go.Sf.Sc
namespace Go.Sf.Sc
open Go Go.Sf
def Gu(h:AG)(d:BA):d5:=⟨Gt h.d4.ci.length d.ci,Gt h.d4.d3.length d.d3⟩
def tS(r:gp)(h:AG)(m:d5)(d:BA):d5:=
 ⟨Rh r.em.d4.ci.length r.x3.ci r.tc.ci (m.ci.map (AA (Gu h d).ci)) d.ci.length,
 Rh r.em.d4.d3.length r.x3.d3 r.tc.d3 (m.d3.map (AA (Gu h d).d3)) d.d3.length⟩
def eW(t:AC)(k:Int):Fp:=(Ay t k).map fun x=>x.Low
def Z4(tr:Fp)(e:Bf):Bf:=⟨e.ne,AA tr e.ns,AA tr e.To⟩
def L6(r:gp)(x:AG)(i:Int):Fp:=x.d4.ci++(BB r.tc.ci i).map (AA r.em.d4.ci)
def L7(t:AC)(r:gp)(x:AG)(i:Int):List Fp:=x.fd++(BB r.tc.ci i).map fun k=>eW t (AA r.em.d4.ci k)
def Nv(r:gp)(c:d5)(x:AG)(i:Int):List Bf:=x.d4.d3++(BB r.tc.d3 i).map fun k=>Z4 c.ci (AA r.em.d4.d3 k)
def DL(t:AC)(r:gp)(x:AG)(c:d5):AG:=⟨⟨L6 r x r.em.d4.ci.length,Nv r c x r.em.d4.d3.length⟩,L7 t r x r.em.d4.ci.length⟩
def CL(h:AG)(d:BA):AG:=⟨⟨d.ci.map (AA h.d4.ci),d.d3.map fun x=>Z4 (Gu h d).ci (AA h.d4.d3 x)⟩,d.ci.map (AA h.fd)⟩
structure Jl(x:AG):Prop where
 ec:x.d4.ci.length<=1000
 ek:x.d4.d3.length<=1000
 vals:x.fd.length<=1000
 rows:∀v∈x.fd,v.length<=1000
structure Tf(t:AC)(r:gp)(c:d5):Prop where
 hf:As t
 hv:(Av t).2=0
 g:Di r.em.d4
 kind:∀n∈r.em.d4.ci,0<=n/\n<t.ci.length
 cn:c.ci.length=r.em.d4.ci.length
variable{t:AC}{r:gp}{c:d5}
theorem jK(h:Tf t r c){n:Int}(e:n∈r.em.d4.ci):(Ay t n).length<=600:=by
 have:=h.kind n e;exact HL h.hf (Int.le_refl _) (DU h.hv).par this.2
variable{x:AG}
theorem PK(h:Jl x):Fc x=some x:=by
 have:=h.ec;have:=h.ek;have:=h.vals;unfold Fc IL;rw[BD (by unfold Ad;omega),bs,BD (by unfold Ad;omega),bs,bs];rw[B1 (fun i=>AG.mk x.d4 (x.fd.take i.toNat)) (by omega) (by rfl)]
 .rw[Int.toNat_natCast,List.take_length];rfl
 .intro i e f;have:=h.rows _ (AK e f)
  grind [AD,BD,Ad,Ai,Ch]
theorem aI(h:Jl x):JC x=some x:=by
 have:=h.ec;have:=h.ek;have:=h.vals;unfold JC slices_Clone_int Cr;rw[BD (by unfold Ad;omega),bs,BD (by unfold Ad;omega),bs];rw[B1 (fun i=>AG.mk x.d4 (x.fd.take i.toNat)) (by omega) (by rfl)]
 .rw[Int.toNat_natCast,List.take_length];rfl
 .intro i e f;have:=h.rows _ (AK e f)
  grind [AD,BD,Ad,Ai,Ch]
variable{α:Type}{i:Int}
theorem C7(l:Fp)(F:Int->α)(h:0<=i):(BB l (i+1)).map F=(BB l i).map F++if i∈l then[]else[F i]:=by grind[MP,hasB,CJ]
theorem Sx(l:Fp)(i:Int):G5 l i=some (!hasB l i):=by
 unfold G5 hasB;rw[BM (fun j=>decide (i=AA l j)) false,HI]
 .cases og (fun j=>decide (i=AA l j)) 0 l.length<;>rfl
 grind [AD,AA]
theorem mq(h:Tf t r c)(q:Jl x):KM t r x c=some (DL t r x c):=by
 have H:=h.g.ec;have I:=h.g.ek;have x1:=q.ec;have J:=q.ek;have K:=q.vals;unfold KM;rw[Ox (fun i=>AG.mk (d4.mk (L6 r x i) x.d4.d3) (L7 t r x i)) (a:=0) (b:=r.em.d4.ci.length) (by omega)]
 .rw[Bi,Ox (fun i=>AG.mk (d4.mk (L6 r x r.em.d4.ci.length) (Nv r c x i)) (L7 t r x r.em.d4.ci.length)) (a:=0) (b:=r.em.d4.d3.length) (by omega)]
  .rfl
  .grind[Nv,BB]
  .intro i e f;have y:=JR (l:=r.tc.d3) e;have he:=h.g.fit _ (AK e f);have z:=h.cn;rw[a6 (by simpa using f),Sx,bs];by_cases hi:i∈r.tc.d3
   .grind[CJ,Nv,C7,Ao]
   .have o:hasB r.tc.d3 i=false:=by cases o:hasB r.tc.d3 i with|false=>rfl|true=>exact absurd (CJ.1 o) hi
    rw [o,a6 (by decide),AD e f,bs,AD he.2.1.1 (by omega),bs,AD he.2.2.1 (by omega),bs,Ai (by unfold Nv;simp;unfold Ad;omega),bs];unfold Nv;rw[C7 _ _ e,ae hi,Ao (by simp only[];omega) (by simp only[];omega),ca];rfl
  .rw[ae (by simp)]
 .unfold L6 L7;simp[BB]
 .intro i e f;have y:=JR (l:=r.tc.ci) e;have u:=AK e f;have w:=h.kind _ u;have N:=jK h u;rw[a6 (by simpa using f),Sx,bs];by_cases hi:i∈r.tc.ci
  .grind[CJ,L6,L7,C7,Ao]
  .have o:hasB r.tc.ci i=false:=by cases o:hasB r.tc.ci i with|false=>rfl|true=>exact absurd (CJ.1 o) hi
   rw [o,ae (by decide),AD e f,bs,Ai (by unfold L6;simp;unfold Ad;omega),bs,bs,Ps h.hf,IV h.hv w.1 w.2,bs];simp only[];rw[TI (F:=fun a=>a.Low) fun j s D E G=>?_]
   .rw[bs,Ai (by unfold L7;simp;unfold Ad;omega),bs];unfold L6 L7;rw[C7 _ _ e,ae hi,C7 _ _ e,ae hi,Ao (by omega) (by omega),ca,ca];rfl
   grind [AD,Ai,Ad]
 .rw[ae (by simp)]
theorem jX(hf:As t)(hv:(Av t).2=0){k:Int}(f:0<=k)(e:k<t.ci.length):Hi t k=some (eW t k):=by
 have:=HL hf (Int.le_refl _) (DU hv).par e;unfold Hi;rw[Pq hf,IV hv f e,bs];simp only[];rw[TI (F:=fun a=>a.Low) fun j s o q u=>?_]
 .rfl
 grind [AD,Ai,Ad]
structure WH(h:AG)(d:BA):Prop where
 sm:Jl h
 len:h.fd.length=h.d4.ci.length
 ec:(∀x∈d.ci,0<=x/\x<h.d4.ci.length)/\d.ci.length<=1000
 ek:(∀x∈d.d3,0<=x/\x<h.d4.d3.length)/\d.d3.length<=1000
 ends:∀e∈h.d4.d3,(0≤e.ns/\e.ns<h.d4.ci.length)/\0≤e.To/\e.To<h.d4.ci.length
variable{h:AG}
theorem Vu{d:BA}(hd:WH h d):Jl (CL h d):=by
 have f:=hd.ec.2;have j:=hd.ek.2;refine⟨by unfold CL;simp;omega,by unfold CL;simp;omega,by unfold CL;simp;omega,fun v hv=>?_⟩;obtain⟨x,e,rfl⟩:=List.mem_map.1 hv;have:=hd.ec.1 x e;exact hd.sm.rows _ (AK this.1 (by rw[hd.len];exact this.2))
variable{R:gp}{M:AL}{C:d5}
theorem jT{d:BA}(q:Tf t R C)(hd:WH h d)(H:C.d3.length=R.em.d4.d3.length)
  (y:∀i:Int,0<=i->i<R.em.d4.ci.length->(AA C.ci i=d.ci.length+(BB R.tc.ci i).length↔i∉R.tc.ci))
  (z:∀i:Int,0<=i->i<R.em.d4.d3.length->(AA C.d3 i=d.d3.length+(BB R.tc.d3 i).length↔i∉R.tc.d3)):
  GL t (Ar.mk R M h (AG.mk (d4.mk [] []) []) (Gu h d) C) d=some (Ar.mk R M h (DL t R (CL h d) C) (Gu h d) C):=by
 have I:=hd.ec.2;have J:=hd.ek.2;have K:=q.g.ec;have N:=q.g.ek;have F:=q.cn;unfold GL;simp only[];rw[B1 (fun i=>Ar.mk R M h (AG.mk (d4.mk ((d.ci.take i.toNat).map (AA h.d4.ci)) []) ((d.ci.take i.toNat).map (AA h.fd))) (Gu h d) C) (by omega) (by simp)]
 rotate_left
 .intro i f j;have o:=hd.ec.1 _ (AK f j);have u:=hd.len;have D:=hd.sm.rows _ (AK o.1 (by omega));rw[AD f j,bs,AD o.1 o.2,bs,Ai (by simp;unfold Ad;omega),bs,AD o.1 (by omega),bs,BD (by unfold Ad;omega),bs,Ai (by simp;unfold Ad;omega),bs,G3 f j,G3 f j]
 rw [bs,Int.toNat_natCast,List.take_length];rw[B1 (fun i=>Ar.mk R M h (AG.mk (d4.mk (d.ci.map (AA h.d4.ci)) ((d.d3.take i.toNat).map fun x=>Z4 (Gu h d).ci (AA h.d4.d3 x))) (d.ci.map (AA h.fd))) (Gu h d) C) (by omega) (by simp)]
 rotate_left
 .intro i f j;have o:=hd.ek.1 _ (AK f j);have he:=hd.ends _ (AK o.1 o.2);have u:(Gu h d).ci.length=h.d4.ci.length:=Lf _ _;simp only[];rw[AD f j,bs,AD o.1 o.2,bs,AD he.1.1 (by omega),bs,AD he.2.1 (by omega),bs,Ai (by simp;unfold Ad;omega),bs,G3 f j];rfl
 rw [bs,Int.toNat_natCast,List.take_length];rw[B1 (fun i=>Ar.mk R M h (AG.mk (d4.mk (L6 R (CL h d) i) (CL h d).d4.d3) (L7 t R (CL h d) i)) (Gu h d) C) (by omega) (by unfold L6 L7;simp[BB,CL])]
 rotate_left
 .intro i f j;have D:=JR (l:=R.tc.ci) f;have G:=AK f j;have E:=q.kind _ G;have u:(L6 R (CL h d) i).length=d.ci.length+(BB R.tc.ci i).length:=by unfold L6 CL;simp
  have w:(L7 t R (CL h d) i).length=d.ci.length+(BB R.tc.ci i).length:=by unfold L7 CL;simp
  simp only[u];rw[AD f j,bs,AD f (by omega),bs];by_cases hi:i∈R.tc.ci
  .rw[ae (by rw[zzX];push_cast;exact fun e=>(y i f j).1 e hi)];unfold L6 L7;rw[C7 _ _ f,a6 hi,List.append_nil,C7 _ _ f,a6 hi,List.append_nil]
  .rw[a6 (by rw[zzX];push_cast;exact(y i f j).2 hi),Ai (by rw[u];simp;unfold Ad;omega),bs,jX q.hf q.hv E.1 E.2,bs,Ai (by rw[w];simp;unfold Ad;omega),bs];unfold L6 L7;rw[C7 _ _ f,ae hi,C7 _ _ f,ae hi,ca,ca]
 rw [bs];rw[B1 (fun i=>Ar.mk R M h (AG.mk (d4.mk (L6 R (CL h d) R.em.d4.ci.length) (Nv R C (CL h d) i)) (L7 t R (CL h d) R.em.d4.ci.length)) (Gu h d) C) (by omega) (by unfold Nv;simp[BB,CL])]
 rotate_left
 .intro i f j;have D:=JR (l:=R.tc.d3) f;have he:=q.g.fit _ (AK f j);have u:(Nv R C (CL h d) i).length=d.d3.length+(BB R.tc.d3 i).length:=by unfold Nv CL;simp
  simp only[u];rw[AD f j,bs,AD f (by omega),bs];by_cases hi:i∈R.tc.d3
  .rw[ae (by rw[zzX];push_cast;exact fun e=>(z i f j).1 e hi)];unfold Nv;rw[C7 _ _ f,a6 hi,List.append_nil]
  .rw[a6 (by rw[zzX];push_cast;exact(z i f j).2 hi),AD he.2.1.1 (by omega),bs,AD he.2.2.1 (by omega),bs,Ai (by rw[u];simp;unfold Ad;omega),bs];unfold Nv;rw[C7 _ _ f,ae hi,ca];rfl
 rw [bs];rfl
theorem YW(hf:As t){d:BA}(hh:(GG t h).2=0)(q:EL h.d4 d=0)(hd:WH h d):I8 t h d=some (CL h d,0):=by
 have u:=hd.ec.2;unfold I8;rw[SB hf,bs,ae (by simp[hh]),Vn ⟨hd.ec.2,hd.ek.2⟩,ae (by simp[q]),bs,ae (by simp)];have e:MC h.d4 d=(CL h d).d4:=by
  unfold MC CL;congr 1;refine List.map_congr_left fun x f=>?_;have f:=hd.ek.1 x f;have he:=hd.ends _ (AK f.1 f.2)
  grind [Z4,Gu,TZ]
 simp only[];rw[Ox (fun i=>AG.mk (MC h.d4 d) ((d.ci.take i.toNat).map (AA h.fd))) (a:=0) (b:=d.ci.length) (by omega) (by simp)]
 .rw[Int.toNat_natCast,List.take_length,Bi,e];rfl
 .intro i o j;have f:=hd.ec.1 _ (AK o j);have w:=hd.len;have y:=hd.sm.rows _ (AK f.1 (by omega));rw[a6 (by simpa using j),AD o j,bs,AD f.1 (by omega),bs,BD (by unfold Ad;omega),bs,Ai (by simp;unfold Ad;omega),bs,G3 o j,Ao (by simp only[];omega) (by simp only[];omega)]
 .rw[ae (by simp)]
end Go.Sf.Sc
namespace Go.Sf.Sc
open Go Go.Sf
def PS(c:d5)(vars:Fp)(s:CT):(Int×Int)×Int:=((AA c.ci s.tl,s.kp),Cn s.j0 vars)
def Bx(r:gp)(c:d5)(vars:Fp):BE:=r.em.ff.map (PS c vars)
def Nt(t:AC)(x:AG)(p:(Int×Int)×Int):Bool:=
 decide (p.2<(AA (Ay t (AA x.d4.ci p.1.1)) p.1.2).Low)||decide ((AA (Ay t (AA x.d4.ci p.1.1)) p.1.2).AaD<p.2)
structure ST(t:AC)(r:gp)(c:d5)(vars:Fp)(x:AG):Prop where
 hf:As t
 hv:(Av t).2=0
 few:r.em.ff.length<=1000
 fewv:vars.length<=1000
 slot:∀s∈r.em.ff,(0<=s.tl/\s.tl<c.ci.length)/\(-1<=s.j0.Var/\s.j0.Var<vars.length)/\
  (0<=AA c.ci s.tl/\AA c.ci s.tl<x.d4.ci.length)/\(0<=s.kp/\s.kp<(Ay t (AA x.d4.ci (AA c.ci s.tl))).length)
 kind:∀n∈x.d4.ci,0<=n/\n<t.ci.length
 vlen:x.fd.length=x.d4.ci.length
 rows:∀i:Int,0<=i->i<x.d4.ci.length->(AA x.fd i).length=(Ay t (AA x.d4.ci i)).length
variable{L:BE}{i:Int}
theorem Zq(e:0<=i)(f:i<=L.length)(h:∀j,0<=j->j<i->og (fun k=>decide ((AA L k).1=(AA L j).1)&&!decide ((AA L k).2=(AA L j).2)) 0 j=false):P8 (L.take i.toNat):=by grind[VF,N8,Bb,cE,Tm,OP]
def TE(L:BE)(i:Int):Bool:=og (fun k=>decide ((AA L k).1=(AA L i).1)&&!decide ((AA L k).2=(AA L i).2)) 0 i
theorem d8(H:0<=i)(I:i<L.length)(w:P8 (L.take i.toNat)):
  (((N2 (L.take i.toNat)).look (AA L i).1).isSome&&(!decide (((N2 (L.take i.toNat)).look (AA L i).1).getD 0=(AA L i).2)))=TE L i:=by
 obtain ⟨J,z,K⟩:=Y4 _ w;unfold TE;cases y:(N2 (L.take i.toNat)).look (AA L i).1 with
 |none=>
  rw [Option.isSome_none,Bool.false_and];refine Eq.symm (Bb.2 fun k q u=>?_);have o:AA L k∈L.take i.toNat:=by
   rw [<-OP (n:=i.toNat) (by omega)]
   grind [AK,cE]
  rw [decide_eq_false (Ve y _ ((z _).2 o)),Bool.false_and]
 |some v=>
  have o:=(z _).1 (Rw y);rw[Option.isSome_some,Bool.true_and,Option.getD_some];have f:∀k,0<=k->k<i->(AA L k).1=(AA L i).1->(AA L k).2=v:=fun k q u e=>by
   have E:AA L k∈L.take i.toNat:=by
    rw [<-OP (n:=i.toNat) (by omega)]
    grind [AK,cE]
   exact w _ E _ o e
  obtain ⟨k,q,u,D⟩:=BW o;rw[cE]at u;rw[OP (by omega)]at D;rw[Bool.eq_iff_iff,Dt];constructor
  .intro h;refine⟨k,q,by omega,?_⟩;rw[D,decide_eq_true rfl,Bool.true_and];exact h
  .rintro⟨j,F,G,h⟩;rw[pc,zzX]at h;rw[<-f j F G h.1];exact h.2
theorem My(r:gp)(c:d5)(vars:Fp)(e:0<=i)(f:i<r.em.ff.length):AA (Bx r c vars) i=PS c vars (AA r.em.ff i):=NV e f
theorem Ix(r:gp)(c:d5)(vars:Fp):(Bx r c vars).length=r.em.ff.length:=c8 ..
variable{ρ:Type}
theorem Wp(L:BE)(v:ρ):fst (fun i=>if TE L i=true then some v else none) 0 L.length=if N8 L=true then some v else none:=LT
variable{t:AC}{R:gp}{M:AL}{B A:AG}{T C:d5}
theorem aH(h:ST t R C M.gt A):G7 (Ar.mk R M B A T C)=some (if N8 (Bx R C M.gt)=true then([],11)else(N2 (Bx R C M.gt),0)):=by
 unfold G7;simp only[];rw[JI (a:=0) (s:=([]:BE)) (fun i=>N2 ((Bx R C M.gt).take i.toNat)) (fun i=>if TE (Bx R C M.gt) i=true then some ([],11)else none) (by omega) rfl]
 .have:=Wp (Bx R C M.gt) (([],11):BE×Int);rw[Ix]at this;rw[this];by_cases e:N8 (Bx R C M.gt)=true
  .rw[a6 e,a6 e];rfl
  .rw[ae e,ae e,<-Ix R C M.gt,Int.toNat_natCast,List.take_length];rfl
 .intro i f o z;have q:=h.slot _ (AK f o);have D:P8 ((Bx R C M.gt).take i.toNat):=Zq f (by rw[Ix];omega) fun j w y=>by
   have:=z j w y;split at this
   .cases this
   .rename_i e;exact Bool.eq_false_iff.2 e
  have u:=d8 (L:=Bx R C M.gt) f (by rw[Ix];exact o) D;rw[AD f o,bs,XT q.2.1.1 q.2.1.2 h.fewv,bs,ae (by simp),AD q.1.1 q.1.2,bs];rw[My R C M.gt f o]at u;simp only[PS]at u;simp only[];by_cases e:TE (Bx R C M.gt) i=true
  .refine(a6 (u.trans e)).trans ?_;rw[a6 e];rfl
  .refine(ae (fun h=>e (u.symm.trans h))).trans ?_;rw[ae e,Ch f (by rw[Ix];exact o),XK,My R C M.gt f o];rfl
variable{α:Type}
theorem Y6{f:α->K1}{g:α->Bool}:∀{l:List α},(∀p∈l,f p=some (g p))->AaP f l=some (l.all g)
 |[],_=>rfl|p::r,h=>by
  unfold AaP;rw[h p List.mem_cons_self,bs,Y6 fun q e=>h q (List.mem_cons_of_mem _ e),bs,List.all_cons]
variable{r:gp}{c:d5}{x:AG}
theorem Xv{vars:Fp}(h:ST t r c vars x){s:CT}(q:s∈r.em.ff){V:List Fp}(u:LQ V x.fd):
  idx V (AA c.ci s.tl)=some (AA V (AA c.ci s.tl))/\idx (AA V (AA c.ci s.tl)) s.kp=some (AA (AA V (AA c.ci s.tl)) s.kp):=by
 have f:=h.slot s q;have hv:=h.vlen;have D:=h.rows _ f.2.2.1.1 f.2.2.1.2;have w:idx x.fd (AA c.ci s.tl)=some (AA x.fd (AA c.ci s.tl)):=AD f.2.2.1.1 (by omega);have y:idx (AA x.fd (AA c.ci s.tl)) s.kp=some (AA (AA x.fd (AA c.ci s.tl)) s.kp):=AD f.2.2.2.1 (by omega);obtain⟨z,x',a,b⟩:=u.idx w y;have j:=F9 a;have o:=F9 b;have E:=(List.getElem?_eq_some_iff.1 j.2.2).1;have e:AA V (AA c.ci s.tl)=z:=by
  grind [AD,Option.some.inj]
 have F:=(List.getElem?_eq_some_iff.1 o.2.2).1;refine⟨AD j.1 (by omega),?_⟩;rw[e];exact AD o.1 (by omega)
theorem eE(h:ST t R C M.gt A){p:(Int×Int)×Int}(o:p∈Bx R C M.gt):Ly t (Ar.mk R M B A T C) p=some (!Nt t A p):=by
 obtain ⟨s,j,rfl⟩:=List.mem_map.1 o;have e:=h.slot s j;have f:=h.kind _ (AK e.2.2.1.1 e.2.2.1.2);obtain⟨q,u⟩:=Xv h j (V:=A.fd) rfl;unfold Ly Lx PS Nt;simp only[];rw[AD e.2.2.1.1 e.2.2.1.2,bs,Pq h.hf,IV h.hv f.1 f.2,bs];simp only[];simp only[AD e.2.2.2.1 e.2.2.2.2,q,u,bs,Pp]
 grind
def Hr(t:AC)(x:AG)(L:BE):AG×Int:=
 if N8 L=true then(⟨⟨[],[]⟩,[]⟩,11)else if L.any (Nt t x)=true then(⟨⟨[],[]⟩,[]⟩,6)else(⟨x.d4,L.foldl CS x.fd⟩,0)
theorem mM(h:ST t R C M.gt A):Ig t (Ar.mk R M B A T C)=some ((Hr t A (Bx R C M.gt)).2,if(Hr t A (Bx R C M.gt)).2=0 then Ar.mk R M B (Hr t A (Bx R C M.gt)).1 T C else Ar.mk R M B A T C):=by
 unfold Ig Hr;rw[aH h,bs];by_cases e:N8 (Bx R C M.gt)=true
 .grind
 .rw[ae e,ae (by simp),ae e];obtain⟨o,q,u⟩:=Y4 _ (VF (Bool.eq_false_iff.2 e));have j:AaP (Ly t (Ar.mk R M B A T C)) (N2 (Bx R C M.gt))=some (!(Bx R C M.gt).any (Nt t A)):=by
   rw [Y6 (g:=fun p=>!Nt t A p) fun p f=>eE h ((q p).1 f)]
   grind
  rw [a6 (by simpa using(show List.Pairwise (fun x y:(Int×Int)×Int=>x.1≠y.1) _ from o)),j,bs]
  grind [Bx,Nt,MU]
theorem qr{vars:Fp}(h:ST t r c vars x):La t r x c vars=some (Hr t x (Bx r c vars)):=by
 unfold La Hr;rw[JI (a:=0) (s:=AG.mk (d4.mk [] []) []) (fun _=>AG.mk (d4.mk [] []) []) (fun i=>if TE (Bx r c vars) i=true then some (AG.mk (d4.mk [] []) [],(11:Int))else none) (by omega) rfl]
 .have:=Wp (Bx r c vars) ((AG.mk (d4.mk [] []) [],(11:Int)));rw[Ix]at this;rw[this];by_cases e:N8 (Bx r c vars)=true
  .rw[a6 e,a6 e];rfl
  rw [ae e,ae e];show fq (some (Sum.inl _)) _ _=_;rw[Bi,JI (a:=0) (s:=(x,AG.mk (d4.mk [] []) [])) (fun i=>(AG.mk x.d4 (((Bx r c vars).take i.toNat).foldl CS x.fd),AG.mk (d4.mk [] []) [])) (fun i=>if Nt t x (AA (Bx r c vars) i)=true then some (AG.mk (d4.mk [] []) [],(6:Int))else none) (by omega) rfl]
  .have:=Yy (l:=Bx r c vars) (q:=Nt t x) (v:=(AG.mk (d4.mk [] []) [],(6:Int)));rw[Ix]at this;rw[this];by_cases j:(Bx r c vars).any (Nt t x)=true
   .rw[a6 j,a6 j];rfl
   .rw[ae j,ae j];show some (AG.mk x.d4 (((Bx r c vars).take (r.em.ff.length:Int).toNat).foldl CS x.fd),(0:Int))=_
    grind [Ix,Int.toNat_natCast,List.take_length]
  .intro i o u _;have D:=AK o u;have f:=h.slot _ D;have w:=h.kind _ (AK f.2.2.1.1 f.2.2.1.2);obtain⟨F,G⟩:=Xv h D (V:=((Bx r c vars).take i.toNat).foldl CS x.fd) (eH _ _);simp only[AD o u,bs];rw[Mu f.2.1.1 f.2.1.2,bs,AD f.1.1 f.1.2,bs,AD f.2.2.1.1 f.2.2.1.2,bs,Ps h.hf,IV h.hv w.1 w.2,bs];simp only[];rw[AD f.2.2.2.1 f.2.2.2.2,bs,bs,Pp,bs,F,bs,G,bs];rw[My r c vars o u,Ch o (by rw[Ix];exact u),List.foldl_append,My r c vars o u];show(if(Nt t x (PS c vars (AA r.em.ff i)))=true then _ else _)=_;by_cases j:Nt t x (PS c vars (AA r.em.ff i))=true
   .rw[a6 j,a6 j];rfl
   .rw[ae j,ae j];have:=Wy (p:=PS c vars (AA r.em.ff i)) F G;exact congrArg (fun W=>some (Bk.next (σ:=AG×AG) (ρ:=AG×Int) (AG.mk x.d4 W,AG.mk (d4.mk [] []) []))) this
 .intro i o u _;have f:=h.slot _ (AK o u);rw[AD o u,bs,Mu f.2.1.1 f.2.1.2,bs];rw[JI (a:=0) (s:=AG.mk (d4.mk [] []) []) (fun _=>AG.mk (d4.mk [] []) []) (fun k=>if(decide ((AA (Bx r c vars) k).1=(AA (Bx r c vars) i).1)&&!decide ((AA (Bx r c vars) k).2=(AA (Bx r c vars) i).2))=true then some (AG.mk (d4.mk [] []) [],(11:Int))else none) o rfl]
  .rw[LT];unfold TE;split<;>rfl
  .intro k y I _;have w:=h.slot _ (AK y (show k<r.em.ff.length by omega));simp only[AD o u,AD y (show k<r.em.ff.length by omega),bs];rw[Mu w.2.1.1 w.2.1.2,bs,AD w.1.1 w.1.2,bs,AD f.1.1 f.1.2,bs,My r c vars o u,My r c vars y (by omega)];simp only[PS,Prod.mk.injEq];by_cases E:AA c.ci (AA r.em.ff k).tl=AA c.ci (AA r.em.ff i).tl<;>by_cases j:(AA r.em.ff k).kp=(AA r.em.ff i).kp<;>by_cases z:Cn (AA r.em.ff i).j0 vars=Cn (AA r.em.ff k).j0 vars
   all_goals first|(have H:¬Cn (AA r.em.ff k).j0 vars=Cn (AA r.em.ff i).j0 vars:=fun h=>z h.symm;simp[E,j,z,H,dG];done)|(simp[E,j,z,dG];done)
end Go.Sf.Sc
namespace Go.Sf.Sc
open Go Go.Sf
variable{t:AC}{r:gp}
theorem Ud(h:FT t r=0):Gz t r.kl=0/\JB t r=0/\Lr t r.kl r.d6=0:=by grind[FT]
theorem Ya(h:JB t r=0):r.em.gt=r.kl.gt/\r.em.ff.length<=10/\∀i:Int,0<=i->i<r.em.ff.length->NP t r.em i=0:=by
 unfold JB at h;split at h
 .omega
 split at h
 .cases h
 split at h
 .cases h
 split at h
 .cases h
 rename_i e f j o;exact⟨by omega,by omega,T7 h⟩
variable{i:Int}
theorem aY{p:ea}(h:NP t p i=0):(0<=(AA p.ff i).tl/\(AA p.ff i).tl<p.d4.ci.length)/\
  (0<=(AA p.ff i).kp/\(AA p.ff i).kp<(F7 t (AA p.d4.ci (AA p.ff i).tl)).1.length)/\-1<=(AA p.ff i).j0.Var/\(AA p.ff i).j0.Var<p.gt:=by
 unfold NP at h;dsimp only at h;split at h
 .cases h
 split at h
 .cases h
 rename_i f e;simp only[Bool.or_eq_true,zzX]at e;omega
structure H1(t:AC)(r:gp)(h:AG)(m:AL):Prop where
 hf:As t
 fr:PW r
 re:FT t r=0
 he:(GG t h).2=0
 at_:Td t r.kl h m
 co:WZ (QV r.kl.d4 h.d4 m.d5) h.d4 r.x3 m.d5
abbrev dS(r:gp)(h:AG)(m:AL):BA:=LC h.d4 r.x3 m.d5
abbrev cS(r:gp)(h:AG)(m:AL):d5:=tS r h m.d5 (dS r h m)
variable{h:AG}{m:AL}
theorem H1.hv(s:H1 t r h m):(Av t).2=0:=(ZK s.re).1
theorem H1.ro(s:H1 t r h m):bF t r:=(ZK s.re).2
theorem H1.hh(s:H1 t r h m):H9 t h:=(OR s.hf s.he).2
theorem OC(hf:As t)(hv:(Av t).2=0)(hh:H9 t h):Jl h:=by
 have j:=hh.g.ec;have o:=hh.g.ek;have q:=hh.len;refine⟨by omega,by omega,by omega,fun v e=>?_⟩;obtain⟨i,f,y,rfl⟩:=BW e;have u:=hh.row i f (by omega);have w:=HL hf (Int.le_refl _) (DU hv).par (hh.kind i f (by omega)).2;omega
theorem H1.rem(s:H1 t r h m):WH h (dS r h m):=by
 have hh:=s.hh;have j:=hh.g.ec;have o:=hh.g.ek;have l1:=PQ (EJ m.d5.ci r.x3.ci) h.d4.ci.length;have l2:=PQ (EJ m.d5.d3 r.x3.d3) h.d4.d3.length;exact⟨OC s.hf s.hv hh,hh.len,⟨fun x f=>He f,by show(BB _ _).length<=1000;omega⟩,⟨fun x f=>He f,by show(BB _ _).length<=1000;omega⟩,fun e he=>(hh.g.fit e he).2⟩
theorem H1.part(s:H1 t r h m):EL h.d4 (dS r h m)=0:=by
 unfold EL;rw[ae (by simp[s.hh.ge])];exact cm s.co
variable{count n:Nat}
theorem bS{hT into images:Fp}{A2:Fp}(few:count<=1000)(nodup:into.Nodup)(len:into.length=hT.length)(inn:∀x∈into,0<=x/\x<count)
  (kin:∀x∈hT,0<=x/\x<images.length)(j:∀x∈images,0<=x/\x<n)(hi:AaG images hT=false)(o:A2=EJ images hT):
  SR count hT into (images.map (AA (Gt n (BB A2 n))))/\(∀x∈hT,AA (images.map (AA (Gt n (BB A2 n)))) x<(BB A2 n).length)/\
  ∀x∈hT,AA (images.map (AA (Gt n (BB A2 n)))) x=Cw (BB A2 n) (AA images x)/\AA images x∈BB A2 n:=by
 have e:∀x∈hT,AA (images.map (AA (Gt n (BB A2 n)))) x=Cw (BB A2 n) (AA images x)/\AA images x∈BB A2 n:=fun x f=>by
  grind [AK,NV,TZ,OJ,Rv]
 refine ⟨⟨few,nodup,len,inn,fun x f=>by rw[c8];exact kin x f,fun x f=>?_⟩,fun x f=>?_,e⟩
 .rw[(e x f).1];exact L0.2 (e x f).2
 .rw[(e x f).1];exact(SW _ _).2
theorem H1.left(s:H1 t r h m):m.d5.ci.length=r.kl.d4.ci.length/\m.d5.d3.length=r.kl.d4.d3.length:=⟨s.at_.m.AaR,s.at_.m.Abg⟩
theorem H1.AbZ(s:H1 t r h m):SR r.em.d4.ci.length r.x3.ci r.tc.ci (m.d5.ci.map (AA (Gu h (dS r h m)).ci))/\
  (∀x∈r.x3.ci,AA (m.d5.ci.map (AA (Gu h (dS r h m)).ci)) x<(dS r h m).ci.length)/\
  ∀x∈r.x3.ci,AA (m.d5.ci.map (AA (Gu h (dS r h m)).ci)) x=Cw (dS r h m).ci (AA m.d5.ci x)/\AA m.d5.ci x∈(dS r h m).ci:=by
 have ro:=s.ro;have o:=ro.right.ec;refine bS (by omega) ro.inj.1 ?_ (fun x e=>?_) (fun x e=>?_) (fun x e=>?_) s.co.ec rfl
 .have:=ro.mor.AaR;rw[this];exact c8 ..
 .obtain⟨i,f,j,rfl⟩:=BW e;exact(ro.mor.node i f j).1
 .have:=ro.part.ec.1 x e;have:=s.left.1;omega
 .obtain⟨i,f,j,rfl⟩:=BW e;exact(s.at_.m.node i f j).1
theorem H1.Ab3(s:H1 t r h m):SR r.em.d4.d3.length r.x3.d3 r.tc.d3 (m.d5.d3.map (AA (Gu h (dS r h m)).d3))/\
  (∀x∈r.x3.d3,AA (m.d5.d3.map (AA (Gu h (dS r h m)).d3)) x<(dS r h m).d3.length)/\
  ∀x∈r.x3.d3,AA (m.d5.d3.map (AA (Gu h (dS r h m)).d3)) x=Cw (dS r h m).d3 (AA m.d5.d3 x)/\AA m.d5.d3 x∈(dS r h m).d3:=by
 have ro:=s.ro;have o:=ro.right.ek;refine bS (by omega) ro.inj.2 ?_ (fun x e=>?_) (fun x e=>?_) (fun x e=>?_) s.co.ek rfl
 .have:=ro.mor.Abg;rw[this];exact c8 ..
 .obtain⟨i,f,j,rfl⟩:=BW e;exact(ro.mor.edge i f j).1
 .have:=ro.part.ek.1 x e;have:=s.left.2;omega
 .obtain⟨i,f,j,rfl⟩:=BW e;exact s.at_.m.edge i f j
theorem Yo{hT into at_:Fp}(h:SR count hT into at_)(f:∀x∈hT,AA at_ x<n)(j:0<=i)(o:i<count):AA (Rh count hT into at_ n) i=n+(BB into i).length↔i∉into:=by
 rw [bR j o];constructor
 .intro e hi;rw[Pj hi]at e;have q:=IH hi;have:=f _ (AK (l:=hT) q.1 (by have:=h.len;omega));omega
 .exact QF
theorem H1.grow(s:H1 t r h m):Tf t r (cS r h m):=
 ⟨s.hf,s.hv,s.ro.right,(Hz s.ro.right s.ro.AbQ).1,Uo _ _ _ _ _⟩
theorem S0(l:Fp)(f:0<=i):∀(k:Nat),∃s,BB l (i+k)=BB l i++s
 |0=>⟨[],by simp⟩|k+1=>by
  obtain ⟨s,e⟩:=S0 l f k
  grind [MP,ca]
variable{l:Fp}
theorem fH{i n:Int}(f:0<=i)(j:i<n)(h:i∉l):AA (BB l n) (BB l i).length=i/\((BB l i).length:Int)<(BB l n).length:=by
 obtain ⟨s,e⟩:=S0 l (i:=i+1) (by omega) (n-(i+1)).toNat
 rw [show i+1+((n-(i+1)).toNat:Int)=n by omega,MP l f]at e
 grind [hasB,CJ,AA]
variable{α:Type}
theorem lZ[Inhabited α]{l m:List α}(e:0<=i)(f:i<l.length):AA (l++m) i=AA l i:=by grind[O2]
theorem lb[Inhabited α]{l m:List α}:AA (l++m) (l.length+n:Int)=AA m n:=by grind[O2,AA,Int.toNat_natCast]
theorem H1.kindAt(s:H1 t r h m)(w:0<=i)(y:i<r.em.d4.ci.length):
  (0<=AA (cS r h m).ci i/\AA (cS r h m).ci i<(DL t r (CL h (dS r h m)) (cS r h m)).d4.ci.length)/\
  (Ay t (AA r.em.d4.ci i)).length<=(Ay t (AA (DL t r (CL h (dS r h m)) (cS r h m)).d4.ci (AA (cS r h m).ci i))).length:=by
 obtain ⟨F,K,c3⟩:=s.AbZ;have G:AA (cS r h m).ci i=Og r.x3.ci r.tc.ci (m.d5.ci.map (AA (Gu h (dS r h m)).ci)) (dS r h m).ci.length i:=bR w y;have el:(DL t r (CL h (dS r h m)) (cS r h m)).d4.ci=(dS r h m).ci.map (AA h.d4.ci)++(Ip r).map (AA r.em.d4.ci):=rfl;rw[G,el,bk,c8,c8];by_cases hi:i∈r.tc.ci
 .have e:=IH hi;have N:=F.len;have j:=AK (l:=r.x3.ci) e.1 (by omega);have z:=c3 _ j;have D:=K _ j;have q:=F.pos _ j;rw[Pj hi];refine⟨⟨q,by push_cast;omega⟩,?_⟩;rw[lZ q (by rw[c8];exact D),NV q D,z.1,(IH z.2).2.2.1];have o:=s.ro.part.ec.1 _ j;have H:=s.left.1;have u:=s.at_.m.node _ o.1 (by omega);have I:=s.hh.kind _ u.1.1 u.1.2;have E:=s.ro.mor.node _ e.1 e.2.1;rw[e.2.2.1]at E;have J:AA (MC r.kl.d4 r.x3).ci (Cw r.tc.ci i)=AA r.kl.d4.ci (AA r.x3.ci (Cw r.tc.ci i)):=NV e.1 (by omega);rw[E.2,J];exact Vc (DU s.hv) I.2 u.2
 .have o:=fH w y hi;rw[QF hi];have f:((dS r h m).ci.map (AA h.d4.ci)).length=(dS r h m).ci.length:=c8 ..;refine⟨⟨by omega,?_⟩,?_⟩
  .have:((Ip r).length:Int)=(BB r.tc.ci r.em.d4.ci.length).length:=rfl
   push_cast
   omega
  .rw[<-f,lb,show Ip r=BB r.tc.ci r.em.d4.ci.length from rfl,NV (by omega) o.2];show _<=(Ay t (AA r.em.d4.ci (AA (BB r.tc.ci r.em.d4.ci.length) (BB r.tc.ci i).length))).length;rw[o.1];exact az _
theorem H1.rows(s:H1 t r h m):(DL t r (CL h (dS r h m)) (cS r h m)).fd.map (fun v=>v.length)=(DL t r (CL h (dS r h m)) (cS r h m)).d4.ci.map fun n=>(Ay t n).length:=by
 show (List.map _ (_++_))=List.map _ (_++_);rw[List.map_append,List.map_append];congr 1
 .show((dS r h m).ci.map (AA h.fd)).map _=((dS r h m).ci.map (AA h.d4.ci)).map _;rw[List.map_map,List.map_map];refine List.map_congr_left fun x e=>?_;have e:=s.rem.ec.1 x e;exact s.hh.row x e.1 e.2
 grind [List.map_map,List.map_congr_left,eW,c8]
theorem H1.put(s:H1 t r h m):ST t r (cS r h m) m.gt (DL t r (CL h (dS r h m)) (cS r h m)):=by
 obtain ⟨N,G,O⟩:=Ud s.re;obtain⟨hv,P,z⟩:=Ya G;have I:=s.at_.q.vars;have D:=s.at_.len;have w:=s.rows;have y:(DL t r (CL h (dS r h m)) (cS r h m)).fd.length=(DL t r (CL h (dS r h m)) (cS r h m)).d4.ci.length:=by
  grind [List.length,c8]
 refine ⟨s.hf,s.hv,by omega,by omega,fun x e=>?_,fun n f=>?_,y,fun i j u=>?_⟩
 .obtain⟨i,j,u,rfl⟩:=BW e;obtain⟨o,H,Q⟩:=aY (z i j u);have E:=(Hz s.ro.right s.ro.AbQ).1 _ (AK o.1 o.2);rw[IV s.hv E.1 E.2]at H;obtain⟨S,U⟩:=s.kindAt o.1 o.2;have F:(cS r h m).ci.length=r.em.d4.ci.length:=Uo _ _ _ _ _
  grind
 .have f:n∈(dS r h m).ci.map (AA h.d4.ci)++(Ip r).map (AA r.em.d4.ci):=f;rcases List.mem_append.1 f with f|f
  .obtain⟨x,e,rfl⟩:=List.mem_map.1 f;have e:=s.rem.ec.1 x e;exact s.hh.kind x e.1 e.2
  .obtain⟨x,e,rfl⟩:=List.mem_map.1 f;have e:=He e;exact(Hz s.ro.right s.ro.AbQ).1 _ (AK e.1 e.2)
 .have J:=NV (l:=(DL t r (CL h (dS r h m)) (cS r h m)).fd) (g:=fun v=>v.length) j (by omega);have K:=NV (l:=(DL t r (CL h (dS r h m)) (cS r h m)).d4.ci) (g:=fun n=>(Ay t n).length) j u
  grind
end Go.Sf.Sc
namespace Go.Sf.Sc
open Go Go.Sf
abbrev sO:gp:=gp.mk (⟨#[]⟩:ByteArray) (ea.mk (d4.mk [] []) [] 0 []) (ea.mk (d4.mk [] []) [] 0 []) (BA.mk [] []) (d5.mk [] []) false (d6.mk 0 [] (d5.mk [] []) (ea.mk (d4.mk [] []) [] 0 []))
abbrev zG:Ar:=Ar.mk sO (AL.mk (d5.mk [] []) []) (AG.mk (d4.mk [] []) []) (AG.mk (d4.mk [] []) []) (d5.mk [] []) (d5.mk [] [])
def WJ(t:AC)(r:gp)(h:AG)(m:AL):Ar×Int:=
 if (Hr t (DL t r (CL h (dS r h m)) (cS r h m)) (Bx r (cS r h m) m.gt)).2≠0 then(zG,(Hr t (DL t r (CL h (dS r h m)) (cS r h m)) (Bx r (cS r h m) m.gt)).2)else
 if 40<(Hr t (DL t r (CL h (dS r h m)) (cS r h m)) (Bx r (cS r h m) m.gt)).1.d4.ci.length\/80<(Hr t (DL t r (CL h (dS r h m)) (cS r h m)) (Bx r (cS r h m) m.gt)).1.d4.d3.length then(zG,3)else
 (Ar.mk r m h (Hr t (DL t r (CL h (dS r h m)) (cS r h m)) (Bx r (cS r h m) m.gt)).1 (Gu h (dS r h m)) (cS r h m),0)
noncomputable def NU(t:AC)(r:gp)(h:AG)(m:AL):Ar×Int:=
 if FT t r≠0 then(zG,FT t r)else if(GG t h).2≠0 then(zG,(GG t h).2)else
 if F4 t r.kl.d4 h.d4 m.d5 r.sc≠0 then(zG,1)else
 if (E9 t r.kl h m.d5).2≠0 then(zG,(E9 t r.kl h m.d5).2)else if¬(E9 t r.kl h m.d5).1=m.gt then(zG,11)else
 if (Lq (QV r.kl.d4 h.d4 m.d5) h.d4 r.x3 m.d5).2≠0 then(zG,(Lq (QV r.kl.d4 h.d4 m.d5) h.d4 r.x3 m.d5).2)else
 if (LM t r.kl r.d6 h m r.sc).2≠0 then(zG,(LM t r.kl r.d6 h m r.sc).2)else
 if (LM t r.kl r.d6 h m r.sc).1=false then(zG,16)else WJ t r h m
variable{t:AC}{r:gp}{h:AG}{m:AL}
theorem Un(e:FT t r=0)(f:(GG t h).2=0)(j:F4 t r.kl.d4 h.d4 m.d5 r.sc=0)(o:(E9 t r.kl h m.d5).2=0)(q:(E9 t r.kl h m.d5).1=m.gt):Rd t r.kl r.d6 h m r.sc=0:=by
 unfold Rd;rw[ae (by simp[(Ud e).2.2]),ae (by simp[f]),ae (by simp[j]),ae (by simp[o]),a6 q]
theorem Y1{X:Option (Ar×Int)}(e:(Hr t (DL t r (CL h (dS r h m)) (cS r h m)) (Bx r (cS r h m) m.gt)).2=0->X=
   if ((decide (40<((Hr t (DL t r (CL h (dS r h m)) (cS r h m)) (Bx r (cS r h m) m.gt)).1.d4.ci.length:Int)))||(decide (80<((Hr t (DL t r (CL h (dS r h m)) (cS r h m)) (Bx r (cS r h m) m.gt)).1.d4.d3.length:Int))))=true then some (zG,3)else
   some (Ar.mk r m h (Hr t (DL t r (CL h (dS r h m)) (cS r h m)) (Bx r (cS r h m) m.gt)).1 (Gu h (dS r h m)) (cS r h m),0)):
  (if(!decide ((Hr t (DL t r (CL h (dS r h m)) (cS r h m)) (Bx r (cS r h m) m.gt)).2=0))=true then some (zG,(Hr t (DL t r (CL h (dS r h m)) (cS r h m)) (Bx r (cS r h m) m.gt)).2)else X)=some (WJ t r h m):=by
 unfold WJ;refine Ef fun f=>?_;rw[e f];refine Ka (by simp;omega) fun _=>rfl
theorem mY(hf:As t)(fr:PW r)(F:EP r.d6<=40)(h:AG)(m:AL):Hh t r h m=some (NU t r h m):=by
 unfold Hh Iz NU;rw[Ms hf,bs];by_cases hv:¬(Av t).2=0
 .grind[FT,Av]
 have hv:=Classical.not_not.1 hv;rw[ae (by simp[hv]),cG hf fr,bs,R6 hf,bs];by_cases j:¬FT t r=0
 .grind
 have j:=Classical.not_not.1 j;rw[ae (by simp[j]),bs,ae (show¬FT t r≠0 by simp[j])];refine Ef fun G=>?_;rw[Option.bind_fun_some];unfold Iy Gs;rw[Uz hf,bs];by_cases o:¬F4 t r.kl.d4 h.d4 m.d5 r.sc=0
 .grind
 have o:=Classical.not_not.1 o;rw[ae (by simp[o]),Y8 hf,bs,ae (show¬F4 t r.kl.d4 h.d4 m.d5 r.sc≠0 by simp[o])];by_cases w:¬(E9 t r.kl h m.d5).2=0
 .grind
 have w:=Classical.not_not.1 w;rw[ae (by simp[w]),gw,bs,ae (show¬(E9 t r.kl h m.d5).2≠0 by simp[w])];by_cases y:¬(E9 t r.kl h m.d5).1=m.gt
 .grind
 have y:=Classical.not_not.1 y;rw[ae (by simp[y]),bs,ae (by simp),ae (show¬¬(E9 t r.kl h m.d5).1=m.gt by simp[y])];rw[mP hf o,bs,ae (by simp),mJ fr.hT,bs];refine Ef fun H=>?_;obtain⟨_,_,_,z⟩:=Tu hf F (Un j G o w y);obtain⟨co,Q⟩:=Up H;rw[YU hf _ fr.cond F,bs,Q];refine Ef fun S=>?_;refine Tv fun U=>?_;have s:H1 t r h m:=⟨hf,fr,j,G,z,co⟩;have u:=s.rem;have V:=s.hh.g.ec;have W:=s.hh.g.ek;have l1:=s.left.1;have l2:=s.left.2;have X:=s.ro.left.ec;have Y:=s.ro.left.ek;have J:=z.len;have K:=z.q.vars;have E:IS m=some m:=by
  unfold IS slices_Clone_int;rw[BD (by unfold Ad;omega),bs,BD (by unfold Ad;omega),bs,BD (by unfold Ad;omega),bs]
 simp only[];rw[E,bs,aI u.sm,bs];rw[ZC (by omega) u.ec.2 (Lb _ _),bs,ZC (by omega) u.ek.2 (Lb _ _),bs];have N:Fg r.em.d4.ci.length r.x3.ci r.tc.ci m.d5.ci (Gt h.d4.ci.length (dS r h m).ci) (LC h.d4 r.x3 m.d5).ci.length=some (cS r h m).ci:=
  Vi s.AbZ.1 (fun x D=>by rw[Lf];obtain⟨i,e,f,rfl⟩:=BW D;exact(z.m.node i e f).1) (by omega) (Int.ofNat_le.2 u.ec.2)
 have O:Fg r.em.d4.d3.length r.x3.d3 r.tc.d3 m.d5.d3 (Gt h.d4.d3.length (dS r h m).d3) (LC h.d4 r.x3 m.d5).d3.length=some (cS r h m).d3:=
  Vi s.Ab3.1 (fun x D=>by rw[Lf];obtain⟨i,e,f,rfl⟩:=BW D;exact z.m.edge i e f) (by omega) (Int.ofNat_le.2 u.ek.2)
 rw [N,bs,O,bs];have P:=jT (M:=m) s.grow u (Uo _ _ _ _ _) (fun i e f=>Yo s.AbZ.1 s.AbZ.2.1 e f) (fun i e f=>Yo s.Ab3.1 s.Ab3.2.1 e f);change ((GL t (Ar.mk r m h (AG.mk (d4.mk [] []) []) (Gu h (dS r h m)) (cS r h m)) (dS r h m)).bind _)=_;rw[P,bs,mM s.put,bs];exact Y1 fun I=>by rw[a6 I]
variable{inj:Bool}
theorem cQ(hf:As t){p:ea}{c:d6}(e:EP c<=40)(f:Rd t p c h m inj=0):Kr t c h m inj=some (LM t p c h m inj):=by
 obtain ⟨hv,hh,j,o⟩:=Tu hf e f
 grind [Kr,LM,wS,CY,kU,bu,ez]
theorem nD(hf:As t)(fr:PW r)(H:EP r.d6<=40)(h:AG)(m:AL):Kx t r h m=some (NU t r h m):=by
 unfold Kx NG NU;rw[cb hf fr,bs,SB hf,bs];by_cases e:¬FT t r=0
 .rw[a6 (by simp[e]),bs,a6 (by simp[e]),a6 e]
 have e:=Classical.not_not.1 e;rw[ae (by simp[e]),bs,ae (show¬FT t r≠0 by simp[e])];refine Ef fun z=>?_;unfold KN;rw[U4 hf,bs];by_cases f:¬F4 t r.kl.d4 h.d4 m.d5 r.sc=0
 .rw[a6 (by simp[f]),bs,a6 (by simp),a6 f]
 have f:=Classical.not_not.1 f;rw[ae (by simp[f]),ji hf,bs,ae (show¬F4 t r.kl.d4 h.d4 m.d5 r.sc≠0 by simp[f])];by_cases j:¬(E9 t r.kl h m.d5).2=0
 .rw[a6 (by simp[j]),bs,a6 (by simp[j]),a6 j]
 have j:=Classical.not_not.1 j;rw[ae (by simp[j]),ZE,bs,ae (show¬(E9 t r.kl h m.d5).2≠0 by simp[j])];by_cases u:¬(E9 t r.kl h m.d5).1=m.gt
 .rw[a6 (by simp[u]),bs,a6 (by simp),a6 u]
 have u:=Classical.not_not.1 u;rw[ae (by simp[u]),ae (show¬¬(E9 t r.kl h m.d5).1=m.gt by simp[u])];rw[mt hf f,bs,ae (by simp),mg fr.hT,bs];by_cases o:¬(Lq (QV r.kl.d4 h.d4 m.d5) h.d4 r.x3 m.d5).2=0
 .rw[a6 (by simp[o]),bs,a6 (by simp[o]),a6 o]
 have o:=Classical.not_not.1 o;rw[ae (by simp[o]),ae (show¬(Lq (QV r.kl.d4 h.d4 m.d5) h.d4 r.x3 m.d5).2≠0 by simp[o])];have y:=Un e z f j u;obtain⟨_,_,_,E⟩:=Tu hf H y;obtain⟨co,K⟩:=Up o;rw[cQ hf H y,bs,K,Hq,bs,bs];by_cases q:¬(LM t r.kl r.d6 h m r.sc).2=0
 .rw[ae (show¬((decide ((LM t r.kl r.d6 h m r.sc).2=0)&&!(LM t r.kl r.d6 h m r.sc).1)=true)by simp[q]),a6 (by simp[q]),a6 q]
 have q:=Classical.not_not.1 q;rw[ae (show¬(LM t r.kl r.d6 h m r.sc).2≠0 by simp[q])];cases O:(LM t r.kl r.d6 h m r.sc).1 with
 |false=>rw[a6 (show(decide ((LM t r.kl r.d6 h m r.sc).2=0)&&!false)=true by simp[q]),a6 (by simp),a6 rfl]|true=>
 rw [ae (show¬(decide ((LM t r.kl r.d6 h m r.sc).2=0)&&!true)=true by simp),ae (by simp[q]),ae (by simp)];have s:H1 t r h m:=⟨hf,fr,e,z,E,co⟩;have w:=s.rem;have P:=s.hh.g.ec;have Q:=s.hh.g.ek;have l1:=s.left.1;have l2:=s.left.2;have S:=s.ro.left.ec;have U:=s.ro.left.ek;unfold LA J2;simp only[];rw[YW hf z s.part w,bs,Xf (by omega) w.ec.2 ((Lb _ _).imp fun h=>by omega),bs,bs,Xf (by omega) w.ek.2 ((Lb _ _).imp fun h=>by omega),bs,bs,bs];simp only[];rw[UX (by omega) (fun x D=>by rw[Lf];obtain⟨i,F,G,rfl⟩:=BW D;exact(E.m.node i F G).1),bs];rw[UX (by omega) (fun x D=>by rw[Lf];obtain⟨i,F,G,rfl⟩:=BW D;exact E.m.edge i F G),bs];have I:E7 r.x3.ci r.tc.ci r.em.d4.ci.length (m.d5.ci.map (AA (Gt h.d4.ci.length (dS r h m).ci))) (LC h.d4 r.x3 m.d5).ci.length=some (cS r h m).ci:=
  Vo s.AbZ.1 (by omega) (Int.ofNat_le.2 w.ec.2)
 have J:E7 r.x3.d3 r.tc.d3 r.em.d4.d3.length (m.d5.d3.map (AA (Gt h.d4.d3.length (dS r h m).d3))) (LC h.d4 r.x3 m.d5).d3.length=some (cS r h m).d3:=
  Vo s.Ab3.1 (by omega) (Int.ofNat_le.2 w.ek.2)
 rw [I,bs,J,bs];rw[PK (Vu w),bs];change ((KM t r (CL h (dS r h m)) (cS r h m)).bind _)=_;rw[mq s.grow (Vu w),bs];change ((La t r (DL t r (CL h (dS r h m)) (cS r h m)) (cS r h m) m.gt).bind _)=_;rw[qr s.put,bs];exact Y1 fun N=>rfl
end Go.Sf.Sc
namespace Go.Sf.Sc
open Go Go.Sf
instance:Inhabited gp:=⟨sO⟩
instance:Inhabited zt:=⟨⟨0,⟨⟨[],[]⟩,[]⟩⟩⟩
instance:Inhabited Ar:=⟨zG⟩
structure KU(rules:List gp):Prop where
 len:rules.length<=12
 each:∀r∈rules,PW r/\EP r.d6<=40
noncomputable def KG(t:AC)(rules:List gp)(h:AG)(m:zt):Ar×Int:=if m.gp<0\/rules.length<=m.gp then(zG,6)else NU t (AA rules m.gp) h m.o3
variable{t:AC}{rules:List gp}
theorem mR(hf:As t)(f:KU rules)(h:AG)(m:zt):C4 t rules h m=some (KG t rules h m):=by
 unfold C4 KG;refine Ka (by simp) fun e=>?_;have j:=f.each _ (AK (l:=rules) (i:=m.gp) (by omega) (by omega))
 grind [AD,mY]
theorem mw(hf:As t)(f:KU rules)(h:AG)(m:zt):MN t rules h m=some (KG t rules h m):=by
 unfold MN KG;refine Ka (by simp) fun e=>?_;have j:=f.each _ (AK (l:=rules) (i:=m.gp) (by omega) (by omega))
 grind [AD,nD]
noncomputable def Pu(t:AC)(rules:List gp):Int:=
 if (Av t).2≠0 then(Av t).2 else if 10<rules.length then 3 else(fst (fun i=>nz (FT t (AA rules i))) 0 rules.length).getD 0
noncomputable def OB(t:AC)(rules:List gp)(h:AG):Int:=if Pu t rules≠0 then Pu t rules else(GG t h).2
theorem mF{e v:Int}(h:nz e=some v):v≠0:=by grind[nz]
variable{a b v:Int}
theorem iy{c:Int->Int}(h:fst (fun i=>nz (c i)) a b=some v):v≠0:=by grind[C5,mF]
theorem cc(hf:As t)(j:KU rules):Kz t rules=some (Pu t rules):=by
 unfold Kz Pu;rw[Mv hf,bs];refine DC fun o=>Ka (by simp;try omega) fun q=>?_;rw[BR (fun i=>nz (FT t (AA rules i))),CG];intro i e f _;rw[AD e f,bs,cb hf (j.each _ (AK e f)).1,bs,Kf]
theorem Xi(hf:As t)(e:KU rules)(h:AG):JP t rules h=some (OB t rules h):=by
 unfold JP OB;rw[cc hf e,bs,SB hf,bs];exact DC fun _=>rfl
theorem eg(hf:As t)(q:KU rules)(h:AG):DY t rules h=some (OB t rules h):=by
 unfold DY OB Pu;rw[Ms hf,bs];by_cases f:¬(Av t).2=0
 .grind
 have f:=Classical.not_not.1 f;rw[ae (by simp[f]),ae (show¬(Av t).2≠0 by simp[f])];by_cases u:10<rules.length
 .grind
 rw [ae (by simp;omega),ae u,BR (fun i=>nz (FT t (AA rules i))),Dd]
 .cases e:fst (fun i=>nz (FT t (AA rules i))) 0 (rules.length:Int)with
  |none=>
   grind [R6]
  |some v=>
   have:=iy e
   grind
 .intro i j o _;rw[AD j o,bs,cG hf (q.each _ (AK j o)).1,bs,Kf]
noncomputable def SJ(t:AC)(rules:List gp)(h0:AG)(ms:List zt):List Ar×AG:=
 ms.foldl (fun s m=>(s.1++[(KG t rules s.2 m).1],(KG t rules s.2 m).1.wi)) ([],h0)
noncomputable def VJ(t:AC)(rules:List gp)(h0:AG)(ms:List zt)(i:Int):Int:=(KG t rules (SJ t rules h0 (ms.take i.toNat)).2 (AA ms i)).2
theorem X3(t:AC)(rules:List gp)(e:AG)(f:List zt)(m:zt):SJ t rules e (f++[m])=((SJ t rules e f).1++[(KG t rules (SJ t rules e f).2 m).1],(KG t rules (SJ t rules e f).2 m).1.wi):=by
 unfold SJ
 grind
theorem ZO(t:AC)(rules:List gp)(f:AG)(e:List zt):(SJ t rules f e).1.length=e.length:=by
 refine X2 (P:=fun e=>(SJ t rules f e).1.length=e.length) rfl (fun e m j=>?_) e
 grind [X3,bk]
noncomputable def U7(t:AC)(rules:List gp)(d:AW):List Ar×Int×Int:=
 if OB t rules d.kg≠0 then([],0,OB t rules d.kg)else if 30<d.kq.length then([],0,3)else
 match fst (fun i=>(nz (VJ t rules d.kg d.kq i)).map fun e=>([],i,e)) 0 d.kq.length with
 |some r=>r|none=>((SJ t rules d.kg d.kq).1,(d.kq.length:Int),0)
variable{d:AW}
theorem Xr(hd:d.kq.length<=1000){f:AG->zt->Option (Ar×Int)}(hf:∀h m,f h m=some (KG t rules h m)):
  fq (j4 (ρ:=(List Ar×Int×Int)) (fun(o:Int)(q:List Ar×AG)=>
  (idx d.kq o).bind fun u=>
  (f q.2 u).bind fun j=>
  if (!decide (j.2=0))=true then
  some (.ret ([],o,j.2))
  else
  (Ag q.1 [j.1]).bind fun w=>
  some (.next (w,j.1.wi))) 0 (d.kq.length:Int) ([],d.kg)) (fun q=>
  some (q.1,(q.1.length:Int),(0:Int))) (fun z=>some z)=some (match fst (fun i=>(nz (VJ t rules d.kg d.kq i)).map fun e=>([],i,e)) 0 d.kq.length with
   |some r=>r|none=>((SJ t rules d.kg d.kq).1,(d.kq.length:Int),0)):=by
 rw [JI (a:=0) (s:=(([],d.kg):List Ar×AG)) (fun i=>SJ t rules d.kg (d.kq.take i.toNat)) (fun i=>(nz (VJ t rules d.kg d.kq i)).map fun e=>([],i,e)) (by omega) rfl]
 .cases fst (fun i=>(nz (VJ t rules d.kg d.kq i)).map fun e=>(([],i,e):List Ar×Int×Int)) 0 (d.kq.length:Int)with
  |some r=>rfl|none=>
   show some _=some _;rw[Int.toNat_natCast,List.take_length,ZO]
 .intro i o y _;have D:=ZO t rules d.kg (d.kq.take i.toNat);rw[AD o y,bs,hf,bs];show(if(!decide (VJ t rules d.kg d.kq i=0))=true then _ else _)=_;by_cases e:VJ t rules d.kg d.kq i=0
  .rw[ae (by simp[e]),Ai (by rw[D,cE];simp;unfold Ad;omega),bs,Ch o y,X3,Mn.2 e];rfl
  .rw[a6 (by simp[e])];unfold nz;rw[ae e];rfl
theorem en(hf:As t)(e:KU rules)(d:AW):Cq t rules d=some (U7 t rules d):=by
 unfold Cq U7;rw[eg hf e,bs];refine Ef fun f=>Ka (by simp;try omega) fun j=>?_;exact Xr (by omega) (mR hf e)
theorem fB(hf:As t)(e:KU rules)(d:AW):J4 t rules d=some (U7 t rules d):=by
 unfold J4 U7;rw[Xi hf e,bs];refine Ef fun f=>Ka (by simp;try omega) fun j=>?_;exact Xr (by omega) (mw hf e)
structure Zh(t:AC)(rules:List gp)(d:AW):Prop where
 given:OB t rules d.kg=0
 few:d.kq.length<=30
 moves:∀i:Int,0<=i->i<d.kq.length->VJ t rules d.kg d.kq i=0
structure tW(h:AG)(s:Ar):Prop where
 AaR:s.AaA.ci.length=h.d4.ci.length
 Abg:s.AaA.d3.length=h.d4.d3.length
 node:∀x∈s.AaA.ci,-1<=x/\x<s.wi.d4.ci.length
 edge:∀x∈s.AaA.d3,-1<=x/\x<s.wi.d4.d3.length
 sm:Jl s.wi
variable{x:AG}{L:BE}
theorem me(h:(Hr t x L).2=0):Hr t x L=(⟨x.d4,L.foldl CS x.fd⟩,0)/\L.any (Nt t x)=false:=by
 unfold Hr at h|-
 grind
structure Tl(t:AC)(r:gp)(h:AG)(m:AL):Prop where
 f:H1 t r h m
 sat:LM t r.kl r.d6 h m r.sc=(true,0)
 solve:E9 t r.kl h m.d5=(m.gt,0)
 chk:F4 t r.kl.d4 h.d4 m.d5 r.sc=0
 put:(Hr t (DL t r (CL h (dS r h m)) (cS r h m)) (Bx r (cS r h m) m.gt)).2=0
 few:(DL t r (CL h (dS r h m)) (cS r h m)).d4.ci.length<=40/\(DL t r (CL h (dS r h m)) (cS r h m)).d4.d3.length<=80
def lW(t:AC)(r:gp)(h:AG)(m:AL):AG:=⟨(DL t r (CL h (dS r h m)) (cS r h m)).d4,(Bx r (cS r h m) m.gt).foldl CS (DL t r (CL h (dS r h m)) (cS r h m)).fd⟩
def iL(t:AC)(r:gp)(h:AG)(m:AL):Ar:=Ar.mk r m h (lW t r h m) (Gu h (dS r h m)) (cS r h m)
variable{r:gp}{h:AG}{m:AL}
theorem du(hf:As t)(fr:PW r)(G:EP r.d6<=40)(e:(NU t r h m).2=0):Tl t r h m/\NU t r h m=(iL t r h m,0):=by
 unfold NU at e|-;split at e
 .rename_i j;exact absurd e j
 rename_i j;rw[ae j];split at e
 .rename_i o;exact absurd e o
 rename_i o;rw[ae o];split at e
 .cases e
 rename_i z;rw[ae z];split at e
 .rename_i q;exact absurd e q
 rename_i q;rw[ae q];split at e
 .cases e
 rename_i D;rw[ae D];split at e
 .rename_i w;exact absurd e w
 rename_i w;rw[ae w];split at e
 .rename_i y;exact absurd e y
 rename_i y;rw[ae y];split at e
 .cases e
 rename_i E;rw[ae E];have j:=Classical.not_not.1 j;have o:=Classical.not_not.1 o;have z:=Classical.not_not.1 z;have q:=Classical.not_not.1 q;have D:=Classical.not_not.1 D;have w:=Classical.not_not.1 w;have y:=Classical.not_not.1 y;obtain⟨_,_,_,H⟩:=Tu hf G (Un j o z q D);have s:H1 t r h m:=⟨hf,fr,j,o,H,(Up w).1⟩;unfold WJ at e|-;split at e
 .rename_i u;exact absurd e u
 rename_i u;rw[ae u];have u:=Classical.not_not.1 u;obtain⟨F,I⟩:=me u;split at e
 .cases e
 rename_i f;rw[ae f];rw[F]at f;refine⟨⟨s,?_,?_,z,u,?_⟩,?_⟩
 .exact Prod.ext (by simpa using E) y
 .exact Prod.ext D q
 .simp only[not_or,Nat.not_lt]at f;exact f
 .rw[F];rfl
end Go.Sf.Sc
namespace Go.Sf.Sc
open Go Go.Sf
structure y5(m:d5)(g:d4):Prop where
 AaR:m.ci.length<=1000
 Abg:m.d3.length<=1000
 node:∀x∈m.ci,-1<=x/\x<g.ci.length
 edge:∀x∈m.d3,-1<=x/\x<g.d3.length
variable{t:AC}{rules:List gp}{h:AG}
theorem jL(hf:As t)(j:KU rules){m:zt}(e:(KG t rules h m).2=0):
  (0<=m.gp/\m.gp<rules.length)/\Tl t (AA rules m.gp) h m.o3/\KG t rules h m=(iL t (AA rules m.gp) h m.o3,0):=by
 unfold KG at e|-;split at e
 .cases e
 rename_i o;rw[ae o];have f:=j.each _ (AK (l:=rules) (i:=m.gp) (by omega) (by omega));exact⟨by omega,du hf f.1 f.2 e⟩
theorem i7(hf:As t)(e:OB t rules h=0):Pu t rules=0/\(GG t h).2=0/\(Av t).2=0/\H9 t h:=by grind[OB,OR]
structure RQ(m:AL):Prop where
 ec:m.d5.ci.length<=1000
 ek:m.d5.d3.length<=1000
 vars:m.gt.length<=1000
structure Tj(d:AW):Prop where
 start:Jl d.kg
 len:d.kq.length<=1000
 moves:∀m∈d.kq,RQ m.o3
variable{r:gp}{m:AL}
theorem Tl.small(s:Tl t r h m):RQ m:=by
 have j:=s.f.left;have e:=s.f.ro.left;have o:=s.f.at_.len;have u:=s.f.at_.q.vars;have:=e.ec;have:=e.ek;exact⟨by omega,by omega,by omega⟩
variable{d:AW}
theorem Zh.small(hf:As t)(e:KU rules)(h:Zh t rules d):Tj d:=by
 obtain ⟨_,_,j,o⟩:=i7 hf h.given;refine⟨OC hf j o,by have:=h.few;omega,fun m f=>?_⟩;obtain⟨i,q,u,rfl⟩:=BW f;have he:=h.moves i q u;unfold VJ at he;exact(jL hf e he).2.1.small
theorem m8(h:RQ m):JQ m=some m:=by
 have:=h.ec;have:=h.ek;have:=h.vars;unfold JQ;rw[BD (by unfold Ad;omega),bs,BD (by unfold Ad;omega),bs,BD (by unfold Ad;omega),bs]
variable{α:Type}
theorem TK[Inhabited α]{σ:Type}{l:List α}(e:l.length<=1000)(g:List α->σ){f:Int->σ->Option σ}(h:∀(i:Int)s,0<=i->i<l.length->s.length<=1000->f i (g s)=some (g (s++[AA l i]))):sx f 0 l.length (g [])=some (g l):=by
 have:=B1 (f:=f) (s:=g []) (fun i=>g (l.take i.toNat)) (a:=0) (b:=l.length) (by omega) rfl (fun i j o=>by
  grind [cE,Ch])
 rwa [Int.toNat_natCast,List.take_length]at this
theorem m7(h:Tj d):J3 d=some d:=by
 unfold J3;rw[PK h.start,bs];have:=TK (l:=d.kq) h.len (fun l=>AW.mk d.kg l) (f:=fun(e:Int)(w:AW)=>
  (idx d.kq e).bind fun j=>
  (idx d.kq e).bind fun o=>
  (JQ o.o3).bind fun q=>
  (Ag w.kq [zt.mk j.gp q]).bind fun u=>
  some (AW.mk w.kg u)) (fun i s e y z=>by
   rw [AD e y,bs,bs,m8 (h.moves _ (AK e y)),bs,Ai (by simp;unfold Ad;omega),bs])
 rw [this];rfl
abbrev zD:AW:=AW.mk (AG.mk (d4.mk [] []) []) []
end Go.Sf.Sc
namespace Go.Sf.Sc
open Go Go.Sf
instance:Inhabited H8:=⟨⟨0,default⟩⟩
def UI(s:AU)(i:Int):QQ:=if AA s.pr i<0\/s.jj.kq.length<AA s.pr i then some 6 else if 0<i/\AA s.pr i<AA s.pr (i-1)then some 12 else none
def Rx(s:AU):Int:=if 20<s.pr.length then 3 else(fst (UI s) 0 s.pr.length).getD 0
variable{s:AU}{i:Int}
theorem Vg(u:0<=i)(w:i<s.pr.length)(y:s.pr.length<=20):(if((decide (AA s.pr i<0))||(decide ((s.jj.kq.length:Int)<AA s.pr i)))=true then
  some (Bk.ret 6)else(if(decide (0<i))=true then((idx s.pr (Af (i-1))).bind fun o=>some (decide (AA s.pr i<o)))else some false).bind fun q=>
  if q=true then some (Bk.ret 12)else some (Bk.next ()))=some (Oc (UI s i)):=by
 unfold UI;by_cases e:AA s.pr i<0\/(s.jj.kq.length:Int)<AA s.pr i
 .rw[a6 (by simpa using e),a6 e];rfl
 rw [ae (by simpa using e),ae e];by_cases f:0<i
 .rw[a6 (by simpa using f),Ao (by omega) (by omega),AD (by omega) (by omega),bs,bs];by_cases j:AA s.pr i<AA s.pr (i-1)
  .rw[a6 (by simpa using j),a6 ⟨f,j⟩];rfl
  .rw[ae (by simpa using j),ae (by simp[j])];rfl
 .rw[ae (by simpa using f),bs,ae (by decide),ae (by simp[f])];rfl
theorem jY(s:AU):Dv s=some (Rx s):=by
 unfold Dv Rx;refine Ka (by simp;try omega) fun e=>?_
 grind [BR,UI,CG,AD,Vg]
theorem cU(s:AU):K3 s=some (Rx s):=by
 unfold K3 Rx;refine Ka (by simp;try omega) fun e=>?_
 grind [BR,UI,CG,Vg,AD,Pp]
structure iP(s:AU):Prop where
 few:s.pr.length<=20
 inn:∀i:Int,0<=i->i<s.pr.length->0<=AA s.pr i/\AA s.pr i<=s.jj.kq.length
 asc:∀i:Int,0<i->i<s.pr.length->AA s.pr (i-1)<=AA s.pr i
noncomputable def ax(t:AC)(rules:List gp)(s:AU):Int:=if(U7 t rules s.jj).2.2≠0 then(U7 t rules s.jj).2.2 else Rx s
variable{t:AC}{rules:List gp}
theorem ma(hf:As t)(e:KU rules)(s:AU):CX t rules s=some (ax t rules s):=by
 unfold CX ax;rw[en hf e,bs,jY];exact DC fun _=>rfl
theorem nF(hf:As t)(e:KU rules)(s:AU):K0 t rules s=some (ax t rules s):=by
 unfold K0 ax;rw[fB hf e,bs,cU];exact DC fun _=>rfl
structure gW(t:AC)(rules:List gp)(s:AU):Prop where
 rep:Zh t rules s.jj
 marks:iP s
structure Oa(s:AU):Prop where
 d:Tj s.jj
 marks:s.pr.length<=1000
theorem gW.small(hf:As t)(e:KU rules)(h:gW t rules s):Oa s:=⟨h.rep.small hf e,by have:=h.marks.few;omega⟩
theorem mV(h:Oa s):DN s=some s:=by
 have u:=h.d.start;have:=u.ec;have:=u.ek;have:=u.vals;have:=h.marks;unfold DN;simp only[slices_Clone_int,Cr];rw[BD (by unfold Ad;omega),bs,BD (by unfold Ad;omega),bs,BD (by unfold Ad;omega),bs];have N:=TK (l:=s.jj.kg.fd) u.vals (fun l=>AU.mk (AW.mk (AG.mk s.jj.kg.d4 l) []) s.pr) (f:=fun(j:Int)(w:AU)=>
  (idx s.jj.kg.fd j).bind fun y=>
  (Ag [] y).bind fun z=>
  (Ag w.jj.kg.fd [z]).bind fun D=>
  some (AU.mk (AW.mk (AG.mk w.jj.kg.d4 D) w.jj.kq) w.pr)) (fun i x j q K=>by
   have:=u.rows _ (AK j q);rw[AD j q,bs,BD (by unfold Ad;omega),bs,Ai (by simp;unfold Ad;omega),bs])
 have O:=TK (l:=s.jj.kq) h.d.len (fun l=>AU.mk (AW.mk s.jj.kg l) s.pr) (f:=fun(J:Int)(s2:AU)=>
  (idx s.jj.kq J).bind fun e=>
  (Ag [] e.o3.d5.ci).bind fun E=>
  (Ag [] e.o3.d5.d3).bind fun F=>
  (Ag [] e.o3.gt).bind fun G=>
  (Ag s2.jj.kq [zt.mk e.gp (AL.mk (d5.mk E F) G)]).bind fun H=>
  some (AU.mk (AW.mk s2.jj.kg H) s2.pr)) (fun i x j q K=>by
   have I:=h.d.moves _ (AK j q);have:=I.ec;have:=I.ek;have:=I.vars;rw[AD j q,bs,BD (by unfold Ad;omega),bs,BD (by unfold Ad;omega),bs,BD (by unfold Ad;omega),bs,Ai (by simp;unfold Ad;omega),bs])
 refine Eq.trans (congrArg (fun o=>Option.bind o _) N) ?_;rw[bs];refine Eq.trans (congrArg (fun o=>Option.bind o _) O) ?_;rfl
theorem m9(h:Oa s):J5 s=some s:=by
 have:=h.marks;unfold J5;rw[m7 h.d,bs,BD (by unfold Ad;omega),bs]
abbrev zS:AU:=AU.mk zD []
def Uw(t:AC)(h:AG):AU×Int:=if(GG t h).2≠0 then(zS,(GG t h).2)else(AU.mk (AW.mk h []) [],0)
theorem mS(hf:As t)(h:AG):DM t h=some (Uw t h):=by
 unfold DM Uw;rw[R6 hf,bs];refine Ef fun e=>?_;obtain⟨o,q⟩:=OR hf e;have j:=OC hf o q;rw[mV ⟨⟨j,by simp,fun m f=>by cases f⟩,by simp⟩,bs]
theorem my(hf:As t)(h:AG):Nn t h=some (Uw t h):=by
 unfold Nn Uw;rw[Mv hf,bs,SB hf,bs];by_cases e:¬(Av t).2=0
 .grind[GG,Av]
 rw [ae (by simpa using e)];refine Ef fun f=>?_
 grind [OR,PK,OC]
end Go.Sf.Sc
namespace Go.Sf.Sc
open Go Go.Sf
end Go.Sf.Sc
namespace Go.Sf.Sc
open Go Go.Sf
variable{ρ:Type}
theorem oI{f:Int×Int->Option (Bk (Int×Int) ρ)}(I:Int->Int->Prop)(b:Int){s a:Int}(u:I a s)
  (step:∀i s,a<=i->I i s->(i<b/\∃s',f (s,i)=some (.next (s',i+1))/\I (i+1) s')\/f (s,i)=some (.brk (s,i))):∃i s',a<=i/\I i s'/\EQ f (s,a)=some (.inl (s',i)):=by
 have key:∀(n:Nat)(i s:Int),a<=i->I i s->b-i<=n->∃j s',i<=j/\I j s'/\LI f (s,i) (.inl (s',j)):=by
  intro n
  induction n with
  |zero=>
   intro i s hi e w;rcases step i s hi e with⟨h,_⟩|h
   .omega
   .exact⟨i,s,Int.le_refl _,e,.brk h⟩
  |succ n E=>
   intro i s hi e w;rcases step i s hi e with⟨_,s',o,q⟩|h
   .obtain⟨j,s2,F,y,z⟩:=E (i+1) s' (by omega) q (by omega);exact⟨j,s2,by omega,y,.next o z⟩
   .exact⟨i,s,Int.le_refl _,e,.brk h⟩
 obtain ⟨j,s',o,q,D⟩:=key (b-a).toNat a s (Int.le_refl _) u (by omega);exact⟨j,s',o,q,D.eq⟩
theorem V3{q w k:Int}(c:Int)(H:q<=1000)(y:0<=k)(o:k<=1000)(u:1<=c/\c<=80)(z:1<=w/\w<=400000):∃w' D,(1<=w'/\w'<=400000)/\EQ (ρ:=ρ) (fun(j:Int×Int)=>
  if ((decide (j.2<q))&&(decide (j.1<=5000)))=true then
  some (.next (Af (j.1*c),Af (j.2+1)))
  else
  some (.brk (j.1,j.2))) (w,k)=some (.inl (w',D)):=by
 obtain ⟨i,s',K,F,G⟩:=oI (ρ:=ρ) (f:=fun(j:Int×Int)=>
  if ((decide (j.2<q))&&(decide (j.1<=5000)))=true then
  some (.next (Af (j.1*c),Af (j.2+1)))
  else
  some (.brk (j.1,j.2))) (fun i s=>(1<=s/\s<=400000)/\0<=i/\i<=1000) q (s:=w) (a:=k) ⟨z,y,o⟩ (fun i s hi E=>by
   by_cases e:i<q/\s<=5000
   .left;have I:1*1<=s*c:=Int.mul_le_mul E.1.1 u.1 (by omega) (by omega);have J:s*c<=5000*80:=Int.mul_le_mul e.2 u.2 (by omega) (by omega)
    grind [Ao]
   grind)
 exact ⟨s',i,F.1,G⟩
theorem ZM:∀(N:Nat)(c:d6)(p:ea)(w:Int),SizeOf.sizeOf c<=N->DO c->Mf p->EP c<=1000->1<=w->w<=5000->∃b,∀n,N<=n->Cy n p c w=some b
 |0,c,_,_,h,_,_,_,_,_=>by have:=D3 c;omega|N+1,c,p,w,h,V,P,hk,w0,w1=>by
  have key:∀q:ea,Mf q->∃b,∀n,N<=n->fq (EQ (ρ:=Bool) (fun(f:Int×Int)=>
    if ((decide (f.2<(q.d4.ci.length:Int)))&&(decide (f.1<=5000)))=true then
    some (.next (Af (f.1*40),Af (f.2+1)))
    else
    some (.brk (f.1,f.2))) (w,(p.d4.ci.length:Int))) (fun f=>
    fq (EQ (ρ:=Bool) (fun(s2:Int×Int)=>
    if ((decide (s2.2<(q.d4.d3.length:Int)))&&(decide (s2.1<=5000)))=true then
    some (.next (Af (s2.1*80),Af (s2.2+1)))
    else
    some (.brk (s2.1,s2.2))) (f.1,(p.d4.d3.length:Int))) (fun s2=>
    fq (EQ (ρ:=Bool) (fun(o:Int)=>
    if ((decide (o<(c.gn.length:Int)))&&(decide (s2.1<=5000)))=true then
    (idx c.gn o).bind fun z=>
    (Cy n q z s2.1).bind fun D=>
    if (!D)=true then
    some (.ret false)
    else
    some (.next (Af (o+1)))
    else
    some (.brk o)) 0) (fun o=>
    some (decide (s2.1<=5000))) (fun W=>some W)) (fun X=>some X)) (fun Y=>some Y)=some b:=by
   intro q u;have q1:=u.ec;have q2:=u.ek;have p1:=P.ec;have p2:=P.ek;obtain⟨a,k,ha,U⟩:=V3 (ρ:=Bool) (q:=q.d4.ci.length) (w:=w) (k:=p.d4.ci.length) 40 (by omega) (by omega) (by omega) (by omega) (by omega);obtain⟨a',k',J,y⟩:=V3 (ρ:=Bool) (q:=q.d4.d3.length) (w:=a) (k:=p.d4.d3.length) 80 (by omega) (by omega) (by omega) (by omega) ha;have Z:c.gn.length<=1000:=by have:=Rf c.gn;have:=Rg c;omega
   by_cases I:a'<=5000
   .have kids:∀x∈c.gn,∃b,∀n,N<=n->Cy n q x a'=some b:=fun x E=>by
     have F:=Ey E;have G:=TB E;have h3:=Rg c;exact ZM N x q a' (by omega) (V.k x E) u (by omega) J.1 I
    have j:∀i:Int,∃b:Bool,0<=i->i<c.gn.length->∀n,N<=n->Cy n q (AA c.gn i) a'=some b:=fun i=>by
     by_cases e:0<=i/\i<c.gn.length
     .obtain⟨b,K⟩:=kids _ (AK e.1 e.2);exact⟨b,fun _ _=>K⟩
     .exact⟨true,fun F G=>absurd ⟨F,G⟩ e⟩
    obtain ⟨g,hg⟩:=Classical.axiomOfChoice j;refine⟨(fst (fun i=>if g i=true then none else some (Sum.inr false:Int ⊕ Bool)) 0 c.gn.length).isNone,fun n H=>?_⟩;rw[U,Bi];simp only[];rw[y,Bi];simp only[];rw[Lg (fun i=>if g i=true then none else some (.inr false)) (b:=c.gn.length) (by omega)]
    .cases e:fst (fun i=>if g i=true then none else some (Sum.inr false:Int ⊕ Bool)) 0 (c.gn.length:Int)with
     |none=>
      show some (decide (a'<=5000))=some true;rw[decide_eq_true I]
     |some r=>
      obtain ⟨i,_,_,O,_⟩:=C5 e;split at O
      .cases O
      .cases O;rfl
    .intro i Q S _;rw[a6 (by simp;omega),AD Q S,bs,hg i Q S n H,bs,Ao (by omega) (by omega)];cases g i<;>rfl
    .rw[ae (by simp)]
   .refine⟨false,fun n H=>?_⟩;rw[U,Bi];simp only[];rw[y,Bi];simp only[];rw[Lg (fun _=>none) (b:=0) (by omega) (fun i F G _=>by omega) (by rw[ae (by simp;omega)])];rw[bf (by omega)];show some _=some _;rw[decide_eq_false I]
  have u:Mf (if c.mo=5 then c.ea else p):=by split;exact V.q;exact P
  obtain ⟨b,K⟩:=key _ u;refine⟨b,fun n H=>?_⟩;obtain⟨n,rfl⟩:∃k,n=k+1:=⟨n-1,by omega⟩;rw[Cy,show(if decide (c.mo=5)=true then some c.ea else some p)=some (if c.mo=5 then c.ea else p)by by_cases e:c.mo=5<;>simp[e],bs];exact K n (by omega)
end Go.Sf.Sc
namespace Go.Sf.Sc
open Go Go.Sf
variable{r:gp}
theorem Xw(e:(Bs r).Sm):(AJ r.d6).Sm:=by
 have f:TV.Sms [_,_,_,_,_,_,_,_,_,_,_,_,_,_,_,_,_,_,_,_,_,_,_,_,_]:=e;obtain⟨_,_,_,_,_,_,_,_,_,_,_,D,E,F,G,_,j,o,c3,q,u,w,y,z,c9,_⟩:=f;exact⟨j,o,c3,q,u,w,y,z,c9,trivial⟩
variable{t:AC}
theorem jI(hf:As t)(st:(AN t).Sm)(e:(Bs r).Sm)(h:AG):∃b,JO t r h=some b/\(b=true->PW r/\EP r.d6<=40):=by
 obtain ⟨f,j,_⟩:=Rj st;obtain⟨o,q,u⟩:=eD e;obtain⟨w,y,z⟩:=cT hf st r.kl (Xw e) h;unfold JO
 grind
variable{rules:List gp}
theorem jJ(st:(AN t).Sm)(V:∀r∈rules,(Bs r).Sm)(h:AG):∃b,Ky t rules h=some b/\(b=true->As t/\KU rules):=by
 obtain ⟨b1,e1,f1⟩:=Rj st;obtain⟨b2,e2⟩:=Ww h;unfold Ky;by_cases Q:(((decide (4<(rules.length:Int)))&&(decide ((rules.length:Int)<=10)))||(decide (12<(rules.length:Int))))=true
 .rw[a6 Q,bs,a6 rfl,bs,a6 rfl];exact⟨false,rfl,fun h=>by cases h⟩
 rw [ae Q,e1,bs,bs];cases b1 with
 |false=>exact⟨false,rfl,fun h=>by cases h⟩
 |true=>
 rw [ae (by decide),e2,bs,bs];cases b2 with
 |false=>exact⟨false,rfl,fun h=>by cases h⟩
 |true=>
 rw [ae (by decide)];have hf:=f1 rfl;have Y:rules.length<=12:=by
  simp only[Bool.or_eq_true,pc,zzX,not_or]at Q;omega
 rcases QN (f:=fun(o:Int)(W:Bool)=>
  (idx rules o).bind fun y=>
  (JO t y h).bind fun z=>
  if (!z)=true then
  some (.ret false)
  else
  (if W=true then((idx rules o).bind fun D=>
  some (decide ((D.kl.d4.ci.length:Int)<=3)))else some false).bind fun E=>
  (if E=true then((idx rules o).bind fun F=>
  some (decide ((F.kl.d4.d3.length:Int)<=2)))else some false).bind fun G=>
  (if G=true then((idx rules o).bind fun H=>
  some (decide ((H.em.d4.ci.length:Int)<=5)))else some false).bind fun I=>
  (if I=true then((idx rules o).bind fun J=>
  (idx rules o).bind fun K=>
  (LB J.kl K.d6 1).bind fun N=>
  some (N))else some false).bind fun O=>
  some (.next O)) (fun i _=>∀j:Int,0<=j->j<i->PW (AA rules j)/\EP (AA rules j).d6<=40) (fun _=>False) (fun r=>r=false) (a:=0) (b:=rules.length) (s:=true) (by omega) (fun j h1 h2=>by omega) (fun i s o u P=>by
   have Z:=AK o u;obtain⟨b3,q,f3⟩:=jI hf st (V _ Z) h;simp only[AD o u,bs];rw[q,bs];cases b3 with
   |false=>exact .inr (.inr ⟨false,rfl,rfl⟩)|true=>
    obtain ⟨S,k2⟩:=f3 rfl;obtain⟨U,e4⟩:=ZM _ (AA rules i).d6 (AA rules i).kl 1 (az _) S.cond S.left (by omega) (by decide) (by decide);have e5:LB (AA rules i).kl (AA rules i).d6 1=some U:=EB _ e4;left;refine⟨(((s&&decide (((AA rules i).kl.d4.ci.length:Int)<=3))&&decide (((AA rules i).kl.d4.d3.length:Int)<=2))&&decide (((AA rules i).em.d4.ci.length:Int)<=5))&&U,?_,fun j X j1=>?_⟩
    .rw[ae (by decide),e5];cases s<;>cases decide (((AA rules i).kl.d4.ci.length:Int)<=3)<;>cases decide (((AA rules i).kl.d4.d3.length:Int)<=2)<;>cases decide (((AA rules i).em.d4.ci.length:Int)<=5)<;>rfl
    .by_cases e:j=i
     .rw[e];exact⟨S,k2⟩
     .exact P j X (by omega))with⟨s',q,h3⟩|⟨r,q,h3⟩
 .rw[q,Bi];have P:=h3.resolve_right id;have w:KU rules:=⟨Y,fun r w=>by
   obtain ⟨i,o,u,rfl⟩:=BW w;exact P i o u⟩
  rw [Xi hf w,bs];exact⟨_,rfl,fun _=>⟨hf,w⟩⟩
 .rw[q,PT,h3];exact⟨false,rfl,fun h=>by cases h⟩
variable{h:AG}
theorem bX:∃b,GR h=some b/\(b=true->Jl h):=by
 unfold GR Ha;rw[bs];by_cases f:((!((decide ((h.d4.ci.length:Int)<=45))&&(decide ((h.d4.d3.length:Int)<=90))))||(decide (45<(h.fd.length:Int))))=true
 .rw[a6 f];exact⟨false,rfl,fun h=>by cases h⟩
 rw [ae f,BM (fun i=>decide (12<((AA h.fd i).length:Int))) false]
 .cases e:og (fun i=>decide (12<((AA h.fd i).length:Int))) 0 h.fd.length with
  |true=>exact⟨false,rfl,fun h=>by cases h⟩
  |false=>
   refine ⟨true,rfl,fun _=>?_⟩;rw[Bb]at e;simp only[Bool.or_eq_true,Bool.not_eq_true',Bool.and_eq_false_iff,decide_eq_false_iff_not,zzX,not_or]at f;refine⟨by omega,by omega,by omega,fun v hv=>?_⟩
   grind [BW]
 .intro i j o _;rw[AD j o,bs,Hq]
variable{m:AL}
theorem bY(e:(m.d5.ci.length:Int)<=140737488351232)(f:(m.d5.d3.length:Int)<=140737488351232):∃b,Gb m 140=some b/\(b=true->RQ m):=by
 unfold Gb Jw;rw[bs];refine⟨_,rfl,fun h=>?_⟩;rw[Ut (by omega) e (by omega) f]at h;simp only[pc,zzX]at h;exact⟨by omega,by omega,by omega⟩
theorem jM{m:zt}(h:(Et m).Sm):(m.o3.d5.ci.length:Int)<=140737488351232/\(m.o3.d5.d3.length:Int)<=140737488351232:=by
 have f:TV.Sms [_,_,_,_]:=h;exact⟨(G2 (e:=eI) f.2.1).1,(G2 (e:=eI) f.2.2.1).1⟩
variable{d:AW}
theorem iv(D:∀m∈d.kq,(Et m).Sm){tn:Int}(H:tn<=100):∃b,Nl d tn=some b/\(b=true->Tj d):=by
 obtain ⟨E,F,G⟩:=bX (h:=d.kg);unfold Nl;rw[F,bs];by_cases q:((!E)||(decide (tn<(d.kq.length:Int))))=true
 .grind
 rw [ae q];simp only[Bool.or_eq_true,Bool.not_eq_true',zzX,not_or,Bool.not_eq_false]at q;rcases QN (f:=fun(o:Int)(_:Unit)=>
  (idx d.kq o).bind fun u=>
  (Gb u.o3 140).bind fun w=>
  if (!w)=true then
  some (.ret false)
  else
  some (.next ())) (fun i _=>∀j:Int,0<=j->j<i->RQ (AA d.kq j).o3) (fun _=>False) (fun r=>r=false) (a:=0) (b:=d.kq.length) (s:=()) (by omega) (fun j q I=>by omega) (fun i s o z hi=>by
   have y:=jM (D _ (AK o z));obtain⟨b,e,f⟩:=bY y.1 y.2;rw[AD o z,bs,e,bs];cases b with
   |false=>exact .inr (.inr ⟨false,rfl,rfl⟩)|true=>
    refine .inl ⟨(),rfl,fun j J K=>?_⟩
    grind)with⟨s',e3,h3⟩|⟨r,e3,h3⟩
 .rw[e3,Bi];have N:=h3.resolve_right id;refine⟨true,rfl,fun _=>⟨G q.1,by omega,fun m y=>?_⟩⟩
  grind [BW]
 grind [PT]
structure tR(c:GH):Prop where
 t:(AN c.T).Sm
 r:∀r∈c.Abz,(Bs r).Sm
 m:∀m∈c.S.jj.kq,(Et m).Sm
theorem tV{c:GH}(h:(GO c).Sm):tR c:=by
 have f:TV.Sms [_,_,_,_,_,_,_,_]:=h;exact⟨⟨f.1,f.2.1,trivial⟩,(G2 (e:=Bs) f.2.2.1).2,(G2 (e:=Et) f.2.2.2.2.2.2.1).2⟩
theorem p6{c:GH}(h:(GO c).Sm):∃b,Na c=some b/\(b=true->As c.T/\KU c.Abz/\Oa c.S):=by
 have e:=tV h;obtain⟨j,o,q⟩:=jJ e.t e.r c.S.jj.kg;obtain⟨D,u,w⟩:=iv (d:=c.S.jj) e.m (tn:=33) (by decide);unfold Na PN;rw[o,bs];cases j with
 |false=>exact⟨false,rfl,fun h=>by cases h⟩
 |true=>
 obtain ⟨y,z⟩:=q rfl;rw[a6 rfl,ID u,bs,bs,bs];refine⟨_,rfl,fun f=>?_⟩;simp only[pc,zzX]at f;exact⟨y,z,w f.1.2,by omega⟩
theorem ew(g:d4):MF g g=some true:=by
 unfold MF;rw[U3,bs,ae (by simp),BM (fun _=>false) false]
 .rw[show og (fun _=>false) 0 (g.d3.length:Int)=false from Bb.2 fun _ _ _=>rfl];rfl
 grind [AD]
variable{l:Fp}
theorem cK(j:l.length<=1000):I9 l l=some 0:=by
 unfold I9;rw[Lg (fun _=>none) (b:=l.length) (by omega)]
 .rw[show fst (fun _=>(none:Option (Int ⊕ Int))) 0 (l.length:Int)=none from CI.2 fun _ _ _=>rfl];show some (Af ((l.length:Int)-l.length))=some 0;rw[Ao (by omega) (by omega),Int.sub_self]
 .intro i f e _;rw[a6 (by simp[e]),AD f e,bs,bs,ae (by simp),Ao (by omega) (by omega)];rfl
 .rw[ae (by simp)]
theorem mf(j:Jl h):MG h h=some true:=by
 unfold MG;rw[ew,bs,ae (by simp),BM (fun _=>false) false]
 .rw[show og (fun _=>false) 0 (h.fd.length:Int)=false from Bb.2 fun _ _ _=>rfl];rfl
 .intro i e f _;rw[AD e f,bs,bs,cK (j.rows _ (AK e f)),bs];simp
theorem jh(l:List zt):Hc l l=some true:=by
 unfold Hc;rw[ae (by simp),BM (fun _=>false) false]
 .rw[show og (fun _=>false) 0 (l.length:Int)=false from Bb.2 fun _ _ _=>rfl];rfl
 .intro i e f _;simp only[AD e f,bs];unfold OG;simp only[ZE,U3,bs];simp
theorem qh(h:Jl d.kg):MM d d=some true:=by grind[MM,mf,jh]
variable{s:AU}
theorem qj(h:Oa s):MO s s=some true:=by
 unfold MO;rw[qh h.d.start,bs,a6 rfl,U3];simp
theorem YJ(h:KU rules):GB rules=some rules:=by
 have:=h.len
 grind [GB,BD,Ad]
theorem kO:Oa zS:=⟨⟨⟨by simp,by simp,by simp,fun v hv=>by cases hv⟩,by simp,fun m e=>by cases e⟩,by simp⟩
theorem Pr(c:GH)(o:(GO c).Sm):FO c=some true:=by
 obtain ⟨b,e,f⟩:=p6 o;unfold FO;rw[dw,bs,ae (by decide),e,bs,bs];cases b with
 |false=>rfl|true=>
 obtain ⟨hf,w,j⟩:=f rfl;rw[ae (by decide),PK j.d.start,bs,mS hf,bs,my hf,bs,a6 (by simp)];have u:Oa (Uw c.T c.S.jj.kg).1:=by
  unfold Uw;split
  .exact kO
  .exact⟨⟨j.d.start,by simp,fun m q=>by cases q⟩,by simp⟩
 grind [qj,YJ,m9,ma,nF]
end Go.Sf.Sc
