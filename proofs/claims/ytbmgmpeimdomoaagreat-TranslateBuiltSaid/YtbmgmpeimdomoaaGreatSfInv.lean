/- The invariant between an environment of the pure language and a frame with memory. -/
import Derived.Test.YtbmgmpeimdomoaaGreatSfSem
import Derived.Laws.AppendOwn
set_option linter.all false
open Option renaming some->Y,none->W
open Bool renaming true->X
open Nat renaming le_trans->w!,lt_of_lt_of_le->w?,lt_or_ge->x_
namespace Go.Sf
open Go.RowKit (Below)
def GU(w:World)(size:Nat)(v:Value)(n:Nat)(xs:List Value)(z:Option (Nat×Nat)):Prop:=
 xs.length=n*size/\
 ((v=.slice W 0 0/\n=0/\z=W)\/
 ∃g cap cur e,v=.slice (Y ⟨g,0,W⟩) n cap/\w.heap[g]?=Y (.cells cur e (0,0))/\n<=cap/\cap<=maxLen/\cur.size=cap*size/\cur.toList.take (n*size)=xs/\z=Y (g,n*size))
def KD(w:World)(size:Nat)(v:Value)(n:Nat)(xs:List Value)(z:Option (Nat×Nat)):Prop:=
 ∃z0,GU w size v n xs z0/\z=z0.map λp=>(p.1,0)
def Bq(w:World)(F:Nat->Nat->Prop)(z:Option (Nat×Nat)):TV->Value->Prop
 |.list n es,v=>∃xs,GU w n v es.length xs z/\AR w F (es.flatMap TV.cells) xs/\(∀e∈es,e.cells.length=n)/\∀x∈xs,x.oneCell'=X|_,_=>False
abbrev IA:=Nat->Nat->Option (Nat×Nat)
def Q9(w:World)(F:Nat->Nat->Prop)(z:Option (Nat×Nat))(n:Nat)(es:Fq)(v:Value):Prop:=
 ∃xs,KD w n v es.length xs z/\AR w F (es.flatMap TV.cells) xs/\(∀e∈es,e.cells.length=n)/\∀x∈xs,x.oneCell'=X
def Fw(w:World)(F:Nat->Nat->Prop)(ρ:IA)(z:Option (Nat×Nat))(es:Fq)(v:Value):Prop:=
 ∃xs,KD w 1 v es.length xs z/\(∀x∈xs,x.oneCell'=X)/\∀(j:Nat)(e:TV),es[j]?=Y e->∃g x n fs,z=Y (g,0)/\xs[j]?=Y x/\e=.list n fs/\Q9 w F (ρ g j) n fs x
def ER(w:World)(F:Nat->Nat->Prop)(ρ:IA)(z:Option (Nat×Nat)):TV->Value->Prop
 |.xl n es,v=>∃xs,KD w n v es.length xs z/\AR w F (es.flatMap TV.cells) xs/\(∀e∈es,e.cells.length=n)/\∀x∈xs,x.oneCell'=X|.xn es,v=>Fw w F ρ z es v|t,v=>Bq w F z t v
variable{ρ:IA}{t:TV}{v:Value}
theorem Bq.c{w:World}{F:Nat->Nat->Prop}{z:Option (Nat×Nat)}(h:Bq w F z t v):ER w F ρ z t v:=by
 cases t<;>first|exact h|(simp[Bq]at h)
def BF(w:World)(F:Nat->Nat->Prop)(ρ:IA)(z:Option (Nat×Nat))(c:AO)(v:Value):Prop:=
 match c with
 |⟨X,t⟩=>ER w F ρ z t v|⟨false,t⟩=>Aq w F t v/\v.oneCell'=X
abbrev BR:=Nat->Option Nat->Option (Nat×Nat)
def sr(a:Act)(G:BR):IA:=λg j=>G (a.tmps.size+g) (Y j)
def AU(base:Nat)(F0:Nat->Nat->Prop)(G:BR)(b o:Nat):Prop:=(b<base/\F0 b o)\/∃s i lo,G s i=Y (b,lo)/\lo<=o
def slot(a:Act)(s:Nat):Value:=a.tmps.getD s undef
def XV(a:Act)(w:World)(q:Nat)(i:Option Nat)(v:Value):Prop:=
 match i with
 |none=>v=slot a q|some k=>∃b c θ,slot a q=.pointer (Y ⟨b,0,W⟩)/\w.heap[b]?=Y (.cells c θ (0,0))/\c[k]?=Y v
def NK.at(w:World)(x:Value):NK->Value->Prop
 |.hd,v=>v=x|.el j,v=>∃g len cap,x=.slice (Y ⟨g,0,W⟩) len cap/\v=.pointer (Y ⟨g,j,W⟩)|.rw j,v=>∃g len cap,x=.slice (Y ⟨g,0,W⟩) len cap/\w.cell? ⟨g,j,W⟩=Y v|.rp j p,v=>∃g len cap,x=.slice (Y ⟨g,0,W⟩) len cap/\∃r len' cap',w.cell? ⟨g,j,W⟩=Y (.slice (Y ⟨r,0,W⟩) len' cap')/\v=.pointer (Y ⟨r,p,W⟩)
def NH(a:Act)(w:World)(q i:Nat)(k:NK)(v:Value):Prop:=
 ∃b c θ x,slot a q=.pointer (Y ⟨b,0,W⟩)/\w.heap[b]?=Y (.cells c θ (0,0))/\c[i]?=Y x/\k.at w x v
def E9(k:Int×Int):Value:=.agg #[.int .i64 k.1,.int .i64 k.2]
def XL(w:World)(b:Nat)(kvs:BW):Prop:=
 ∃es clock,w.heap[b]?=Y (.map es clock)/\es.toList.map (λe=>(e.key,e.val))=kvs.map (λp=>(E9 p.1,Value.int .i64 p.2))/\es.toList.Pairwise (λx y=>x.born<y.born)/\∀e∈es.toList,e.born<clock
def kB(w:World)(r b:Nat)(last:Option ((Int×Int)×Int))(todo:BW):Prop:=
 ∃(es:Array MapEntry)(clock since c0:Nat)(seen:Array Nat),w.heap[b]?=Y (.map es clock)/\w.heap[r]?=Y (.mapIter (Y b) since seen c0)/\es.toList.Pairwise (λx y=>x.born<y.born)/\(∀e∈es.toList,e.born<since)/\since<=c0/\since<=clock/\
  (∀p,last=Y p->∃(seen':Array Nat)(e:MapEntry),seen=seen'.push e.born/\e∈es.toList/\c0=clock/\e.key=E9 p.1/\e.val=.int .i64 p.2)/\
  ((es.toList.filter λe=>!seen.contains e.born).map (λe=>(e.key,e.val))).Perm (todo.map (λp=>(E9 p.1,Value.int .i64 p.2)))
def Va(w:World)(F:Nat->Nat->Prop)(z z2:Option (Nat×Nat)):MX->Value->Prop
 |.mp b kvs,v=>v=.map (Y b)/\z=Y (b,0)/\XL w b kvs|.tm b kvs ts,v=>∃vs,v=.tuple (Value.map (Y b)::vs).toArray/\z=Y (b,0)/\XL w b kvs/\AR w F ts vs|.mi last todo,v=>∃r b,v=.pointer (Y ⟨r,0,W⟩)/\z=Y (r,0)/\z2=Y (b,0)/\kB w r b last todo
def AM(a:Act)(w:World)(F:Nat->Nat->Prop)(G:BR)(ε:AB)(s:Nat):EV->Value->Prop
 |.undef,_=>True|.sk,v=>v=undef|.tv t,v=>Aq w F t v|.ow t,v=>Bq w F (G s W) t v|.bx cs,v=>∃b c θ,v=.pointer (Y ⟨b,0,W⟩)/\w.heap[b]?=Y (.cells c θ (0,0))/\c.size=cs.length/\G s W=Y (b,0)/\∀(i:Nat)(d:AO),cs[i]?=Y d->∃x,c[i]?=Y x/\BF w F (sr a G) (G s (Y i)) d x|.bp q off,v=>(∃cs,ε.get q=.bx cs)->∃b,slot a q=.pointer (Y ⟨b,0,W⟩)/\v=.pointer (Y ⟨b,off,W⟩)|.tp ts,v=>∃vs,v=.tuple vs/\AR w F ts vs.toList|.xo n es,v=>∃xs,KD w n v es.length xs (G s W)/\AR w F (es.flatMap TV.cells) xs/\(∀e∈es,e.cells.length=n)/\∀x∈xs,x.oneCell'=X|.oag cs,v=>∃vs,v=.agg vs/\vs.size=cs.length/\∀(i:Nat)(d:AO),cs[i]?=Y d->∃x,vs[i]?=Y x/\BF w F (sr a G) (G s (Y i)) d x|.la q i,v=>(∃p,ε.o3 q i=Y p)->XV a w q i v|.lp q i c,v=>(∃p,ε.o3 q i=Y p)->∃g len cap,XV a w q i (.slice (Y ⟨g,0,W⟩) len cap)/\v=.pointer (Y ⟨g,c,W⟩)|.xn es,v=>Fw w F (sr a G) (G s W) es v|.x1 n fs,v=>∃g cap x,v=.slice (Y ⟨g,0,W⟩) 1 cap/\1<=cap/\w.cell? ⟨g,0,W⟩=Y x/\¬F g 0/\x.oneCell'=X/\Q9 w F (G s W) n fs x|.nh q i k,v=>(∃es,ε.nat q i=Y es)->NH a w q i k v|.mx m,v=>Va w F (G s W) (G s (Y 0)) m v
def YZ(w:World)(E:Nat->Nat->Prop):Prop:=Tz w/\∀b o,E b o->dk<=b
structure W0 extends World where
 E:Nat->Nat->Prop
theorem ER.own{w:World}{F:Nat->Nat->Prop}{z:Option (Nat×Nat)}(h:ER w F ρ z t v)(f:t.Aav=false):Bq w F z t v:=by
 cases t<;>first|exact h|(simp[TV.Aav]at f)
structure HQ(F0:Nat->Nat->Prop)(w0:W0)(w:World):Prop where
 os:w.os=w0.os
 tape:w.tape=w0.tape
 output:w.output=w0.output
 size:w0.heap.size<=w.heap.size
 block:∀k,k<w0.heap.size->(∀o,¬w0.E k o)->w.heap[k]?=w0.heap[k]?
 cell:∀b o u,¬w0.E b o->w0.cell? ⟨b,o,W⟩=Y u->w.cell? ⟨b,o,W⟩=Y u
 free:∀b o o',w0.E b o->¬F0 b o'
 tab:YZ w0.toWorld w0.E
theorem HQ.trans{F0:Nat->Nat->Prop}{w0:W0}{w w':World}(h:HQ F0 w0 w)(j:w'.os=w.os)(l:w'.tape=w.tape)(m:w'.output=w.output)(r:w.heap.size<=w'.heap.size)(x:∀k,k<w0.heap.size->(∀o,¬w0.E k o)->w'.heap[k]?=w.heap[k]?)(y:∀b o u,b<w0.heap.size->¬w0.E b o->w.cell? ⟨b,o,W⟩=Y u->w'.cell? ⟨b,o,W⟩=Y u):HQ F0 w0 w':=
 ⟨j.trans h.os,l.trans h.tape,m.trans h.output,w! h.size r,λb f he=>(x b f he).trans (h.block b f he),λb o u he g=>y b o u (World.block_lt_of_cell? _ ⟨b,o,W⟩ g) he (h.cell b o u he g),h.free,h.tab⟩
theorem HQ.now{F0:Nat->Nat->Prop}{w0:W0}{w:World}(h:HQ F0 w0 w):Tz w:=
 h.tab.1.ei λb f=>h.block b (w? f h.tab.1.lt) λo e=>absurd (h.tab.2 b o e) U
theorem HQ.but{F0:Nat->Nat->Prop}{w0:W0}{w w':World}(h:HQ F0 w0 w)(f:w'.os=w.os)(g:w'.tape=w.tape)(j:w'.output=w.output)(l:w.heap.size<=w'.heap.size){Z:Nat->Prop}(m:∀b,Z b->w0.heap.size<=b\/∀o,w0.E b o)(r:∀k,k<w0.heap.size->¬Z k->w'.heap[k]?=w.heap[k]?):HQ F0 w0 w':=
 h.trans f g j l (λk x he=>r k x λz=>(m k z).elim (λe=>U) (λe=>he 0 (e 0))) (λb o u y he A=>by
  grind [World.cell?_of_block])
theorem HQ.go{F0:Nat->Nat->Prop}{w0:W0}{w w':World}(h:HQ F0 w0 w)(k:Below w.heap.size w w'):HQ F0 w0 w':=
 h.trans k.os k.tape k.output k.size (λb f _=>k.block b (w? f h.size)) (λb o u f _ g=>by rw[k.cell (p:=⟨b,o,W⟩) (w? f h.size)];exact g)
structure AP(F0:Nat->Nat->Prop)(w0:W0)(ε:AB)(a:Act)(w:World)(G:BR):Prop where
 gi:∀s i s' i' b lo lo',G s i=Y (b,lo)->G s' i'=Y (b,lo')->s=s'/\i=i'
 lt:∀s i b lo,G s i=Y (b,lo)->b<w.heap.size/\(w0.heap.size<=b\/∀o,lo<=o->w0.E b o)
 below:HQ F0 w0 w
 defers:a.defers=[]
 dom:∀s,a.tmps.size<=s->ε.get s=.undef
 slots:∀s,s<a.tmps.size->AM a w (AU w0.heap.size F0 G) G ε s (ε.get s) (slot a s)
 wf:∀s,(ε.get s).WF
variable{s:Nat}{i:Option Nat}
theorem AP.low{F0:Nat->Nat->Prop}{w0:W0}{ε:AB}{a:Act}{w:World}{G:BR}(h:AP F0 w0 ε a w G){b lo:Nat}(e:G s i=Y (b,lo)):dk<=b:=
 (h.lt _ _ _ _ e).2.elim (λk=>w! h.below.tab.1.lt k) λk=>h.below.tab.2 b lo (k lo (R0 _))
def Bt(F0:Nat->Nat->Prop)(w0:W0)(ε:AB)(a:Act)(w:World):Prop:=∃G,AP F0 w0 ε a w G
theorem AB.bn(k:Nat)(e:EV)(ε:AB)(n:Nat):AB.get ((k,e)::ε) n=if k=n then e else ε.get n:=rfl
theorem AB.get_map_keep(ε:AB):∀(live:I2)(n:Nat),AB.get (live.map λs=>(s,ε.get s)) n=if n∈live then ε.get n else .undef
 |[],n=>by simp[AB.get]|s::live,n=>by
  simp [AB.get,AB.get_map_keep ε live n]
  grind
theorem AB.Aat(ε:AB)(live:I2)(n:Nat):(ε.ei live).get n=if n∈live then ε.get n else .undef:=AB.get_map_keep ε live n
variable{q:Nat}
theorem AB.Aae{ε env':AB}(h:env'.get q=ε.get q):env'.o3 q i=ε.o3 q i:=by
 cases i<;>simp[AB.o3,h]
theorem AB.AaF{ε:AB}(h:ε.get q=.undef):ε.o3 q i=W:=by
 cases i<;>simp[AB.o3,h]
variable{live:I2}
theorem AB.xat_keep{ε:AB}(h:∃p,(ε.ei live).o3 q i=Y p):∃p,ε.o3 q i=Y p:=by grind[AB.Aae,AB.Aat,AB.AaF]
variable{n:Nat}
theorem AB.pc{ε:AB}{q k:Nat}{es:Fq}(h:ε.o3 q (Y k)=Y (n,es)):∃cs,ε.get q=.bx cs/\cs[k]?=Y ⟨X,.xl n es⟩:=by grind[AB.o3,nm]
theorem AB.q0{ε:AB}{es:Fq}(h:ε.o3 q W=Y (n,es)):ε.get q=.xo n es:=by grind[AB.o3,nm]
theorem AB.Aap{ε env':AB}{i:Nat}(h:env'.get q=ε.get q):env'.nat q i=ε.nat q i:=by
 simp [AB.nat,h]
theorem AB.nat_undef{ε:AB}{i:Nat}(h:ε.get q=.undef):ε.nat q i=W:=by
 simp [AB.nat,h]
theorem AB.nat_keep{ε:AB}{i:Nat}(h:∃p,(ε.ei live).nat q i=Y p):∃p,ε.nat q i=Y p:=by grind[AB.Aap,AB.Aat,AB.nat_undef]
theorem AB.pN{ε:AB}{q k:Nat}{es:Fq}(h:ε.nat q k=Y es):∃cs,ε.get q=.bx cs/\cs[k]?=Y ⟨X,.xn es⟩:=by grind[AB.nat,nm]
variable{b o:Nat}
theorem AU.mono{base:Nat}{F0:Nat->Nat->Prop}{G j:BR}(h:∀s i b lo,j s i=Y (b,lo)->∃s' g f,G s' g=Y (b,f)/\f<=lo)(hf:AU base F0 j b o):AU base F0 G b o:=by
 rcases hf with hf|⟨s,i,lo,r,u⟩
 .exact .inl hf
 .obtain⟨s',g,f,l,m⟩:=h s i b lo r;exact .inr ⟨s',g,f,l,w! m u⟩
theorem Bt.ei{F0:Nat->Nat->Prop}{w0:W0}{ε:AB}{a:Act}{w:World}(h:Bt F0 w0 ε a w)(live:I2):Bt F0 w0 (ε.ei live) a w:=by
 obtain ⟨G,g⟩:=h;refine⟨G,g.gi,g.lt,g.below,g.defers,λs l=>?_,λs l=>?_,λs=>?_⟩
 .rw[AB.Aat,g.dom s l];split<;>rfl
 .have:=g.slots s l;rw[AB.Aat];split
  .cases he:ε.get s with
   |bp q r=>
    rw [he]at this;simp only[AM]at this|-;rintro⟨cs,f⟩;rw[AB.Aat]at f;split at f
    .exact this ⟨cs,f⟩
    .cases f
   |undef=>trivial|sk=>rw[he]at this;exact this|tv t=>rw[he]at this;exact this|ow t=>rw[he]at this;exact this|bx cs=>rw[he]at this;exact this|tp u=>rw[he]at this;exact this|xo n es=>rw[he]at this;exact this|oag cs=>rw[he]at this;exact this|xn es=>rw[he]at this;exact this|x1 n x=>rw[he]at this;exact this|mx m=>rw[he]at this;exact this|nh q i k=>
    rw [he]at this;simp only[AM]at this|-;exact λj=>this (AB.nat_keep j)
   |la q i=>
    rw [he]at this;simp only[AM]at this|-;exact λj=>this (AB.xat_keep j)
   |lp q i c=>
    rw [he]at this;simp only[AM]at this|-;exact λj=>this (AB.xat_keep j)
  .trivial
 .rw[AB.Aat];split
  .exact g.wf s
  .trivial
section own
variable{w w':World}{F F':Nat->Nat->Prop}{z:Option (Nat×Nat)}
variable{size:Nat}{v:Value}{n:Nat}
theorem GU.kept{xs:List Value}(h:GU w size v n xs z)(l:∀b lo,z=Y (b,lo)->w'.heap[b]?=w.heap[b]?):GU w' size v n xs z:=by
 refine ⟨h.1,?_⟩;rcases h.2 with f|⟨g,cap,j,e,m,r,u,x,y,A,B⟩
 .exact .inl f
 grind
theorem KD.kept{xs:List Value}(h:KD w size v n xs z)(g:∀b lo,z=Y (b,lo)->w'.heap[b]?=w.heap[b]?):KD w' size v n xs z:=by
 obtain ⟨l,m,f⟩:=h;exact⟨l,m.kept (λb lo j=>g b 0 (by rw[f,j];rfl)),f⟩
variable{t:TV}
theorem Bq.kept(f:Bf w w' F F')(h:Bq w F z t v)(g:∀b lo,z=Y (b,lo)->w'.heap[b]?=w.heap[b]?):Bq w' F' z t v:=by
 cases t<;>simp[Bq]at h|-;obtain⟨xs,j,l,m⟩:=h;exact⟨xs,j.kept g,Ar f _ _ l,m⟩
theorem Q9.kept{es:Fq}(f:Bf w w' F F')(h:Q9 w F z n es v)(g:∀b lo,z=Y (b,lo)->w'.heap[b]?=w.heap[b]?):Q9 w' F' z n es v:=by
 obtain ⟨xs,j,l,m⟩:=h;exact⟨xs,j.kept g,Ar f _ _ l,m⟩
def BJ(w w':World)(ρ:IA):Prop:=∀g j b lo,ρ g j=Y (b,lo)->w'.heap[b]?=w.heap[b]?
variable{ρ:IA}
theorem BJ.rfl'{w:World}:BJ w w ρ:=λ_ _ _ _ _=>rfl
theorem Fw.kept{es:Fq}(f:Bf w w' F F')(h:Fw w F ρ z es v)(l:∀b lo,z=Y (b,lo)->w'.heap[b]?=w.heap[b]?)(m:BJ w w' ρ):Fw w' F' ρ z es v:=by
 obtain ⟨xs,y,A,B⟩:=h;refine⟨xs,y.kept l,A,λj e r=>?_⟩;obtain⟨g,x,n,C,D,E,H,I⟩:=B j e r;exact⟨g,x,n,C,D,E,H,I.kept f (λb lo u=>m g j b lo u)⟩
def XN(w w':World)(ρ:IA)(z:Option (Nat×Nat)):Prop:=∀g lo j b lo',z=Y (g,lo)->ρ g j=Y (b,lo')->w'.heap[b]?=w.heap[b]?
theorem BJ.spot{w w':World}{z:Option (Nat×Nat)}(h:BJ w w' ρ):XN w w' ρ z:=λg _ j b f _ l=>h g j b f l
theorem Fw.Abr{es:Fq}(l:Bf w w' F F')(h:Fw w F ρ z es v)(m:∀b lo,z=Y (b,lo)->w'.heap[b]?=w.heap[b]?)(r:XN w w' ρ z):Fw w' F' ρ z es v:=by
 obtain ⟨xs,A,B,C⟩:=h;refine⟨xs,A.kept m,B,λj e u=>?_⟩;obtain⟨g,x,n,D,f,E,H,I⟩:=C j e u;exact⟨g,x,n,D,f,E,H,I.kept l (λb lo y=>r g 0 j b lo f y)⟩
variable{ρ':IA}
theorem Fw.sr{es:Fq}(h:Fw w F ρ z es v)(m:∀g lo j,z=Y (g,lo)->ρ' g j=ρ g j):Fw w F ρ' z es v:=by
 obtain ⟨xs,f,l,u⟩:=h;refine⟨xs,f,l,λj e r=>?_⟩
 grind
variable{c:AO}
theorem BF.sr(h:BF w F ρ z c v)(f:∀g lo j,z=Y (g,lo)->ρ' g j=ρ g j):BF w F ρ' z c v:=by
 obtain ⟨_|_,t⟩:=c
 .exact h
 .cases t<;>first|exact h|exact Fw.sr h f
theorem ER.kept(f:Bf w w' F F')(h:ER w F ρ z t v)(g:∀b lo,z=Y (b,lo)->w'.heap[b]?=w.heap[b]?)(j:BJ w w' ρ):ER w' F' ρ z t v:=by
 cases t<;>simp[ER]at h|- <;>first|exact Bq.kept f h g|exact Fw.kept f h g j|skip
 obtain ⟨xs,l,m,r⟩:=h;exact⟨xs,l.kept g,Ar f _ _ m,r⟩
theorem BF.kept(f:Bf w w' F F')(h:BF w F ρ z c v)(g:∀b lo,z=Y (b,lo)->w'.heap[b]?=w.heap[b]?)(j:BJ w w' ρ):BF w' F' ρ z c v:=by
 obtain ⟨_|_,t⟩:=c
 .exact⟨CH f _ _ h.1,h.2⟩
 .exact ER.kept f h g j
theorem BF.Abr(f:Bf w w' F F')(h:BF w F ρ z c v)(g:∀b lo,z=Y (b,lo)->w'.heap[b]?=w.heap[b]?)(j:XN w w' ρ z):BF w' F' ρ z c v:=by
 obtain ⟨_|_,t⟩:=c
 .exact⟨CH f _ _ h.1,h.2⟩
 .replace h:ER w F ρ z t v:=h;show ER w' F' ρ z t v;cases t<;>simp[ER]at h|- <;>first|exact Bq.kept f h g|exact Fw.Abr f h g j|skip
  obtain ⟨xs,l,m,r⟩:=h;exact⟨xs,l.kept g,Ar f _ _ m,r⟩
end own
variable{v:Value}
theorem Va.kept{w w':World}{F F':Nat->Nat->Prop}{z z2:Option (Nat×Nat)}{m:MX}(B:Bf w w' F F')(h:Va w F z z2 m v)(l:∀b lo,z=Y (b,lo)->w'.heap[b]?=w.heap[b]?)(u:∀b lo,z2=Y (b,lo)->w'.heap[b]?=w.heap[b]?):Va w' F' z z2 m v:=by
 cases m with
 |mp b y=>
  obtain ⟨j,f,g⟩:=h;exact⟨j,f,by unfold XL;rw[l _ _ f];exact g⟩
 |tm b y C=>
  obtain ⟨vs,j,f,g,x⟩:=h;exact⟨vs,j,f,by unfold XL;rw[l _ _ f];exact g,Ar B _ _ x⟩
 |mi last A=>
  obtain ⟨r,b,j,f,g,x⟩:=h;exact⟨r,b,j,f,g,by unfold kB;rw[l _ _ f,u _ _ g];exact x⟩
variable{s:Nat}{e:EV}
theorem AM.kept'{a a':Act}{w w':World}{F F':Nat->Nat->Prop}{G L:BR}{ε env':AB}
  (r:Bf w w' F F')(u:∀i,L s i=G s i)(y:∀i b lo,G s i=Y (b,lo)->w'.heap[b]?=w.heap[b]?)
  (M:∀i g lo j,G s i=Y (g,lo)->sr a' L g j=sr a G g j)(N:∀i,XN w w' (sr a G) (G s i))
  (O:∀q i k,e=.nh q i k->(∃p,env'.nat q i=Y p)->(∃p,ε.nat q i=Y p)/\∀v,NH a w q i k v->NH a' w' q i k v)
  (P:∀q B,e=.bp q B->(∃cs,env'.get q=.bx cs)->(∃cs,ε.get q=.bx cs)/\slot a' q=slot a q)
  (H:∀q i,(e=.la q i\/∃c,e=.lp q i c)->(∃p,env'.o3 q i=Y p)->(∃p,ε.o3 q i=Y p)/\∀v,XV a w q i v->XV a' w' q i v)
  (h:AM a w F G ε s e v):AM a' w' F' L env' s e v:=by
 cases e with
 |undef=>trivial|sk=>exact h|tv t=>exact CH r t v h|ow t=>
  simp [AM]at h|-;rw[u];exact h.kept r (λb lo=>y _ b lo)
 |bx cs=>
  simp only[AM]at h|-;obtain⟨b,c,θ,f,A,D,K,J⟩:=h;refine⟨b,c,θ,f,by rw[y _ _ _ K];exact A,D,by rw[u];exact K,λi d hd=>?_⟩;obtain⟨x,Q,l⟩:=J i d hd;exact⟨x,Q,by rw[u];exact(l.Abr r (λb lo=>y _ b lo) (N _)).sr (λg lo j I=>M _ g lo j I)⟩
 |bp q B=>
  simp only[AM]at h|-;intro C;obtain⟨l,E⟩:=P q B rfl C;rw[E];exact h l
 |tp S=>
  simp [AM]at h|-;obtain⟨vs,f,A⟩:=h;exact⟨vs,f,Ar r _ _ A⟩
 |xo n es=>
  simp [AM]at h|-;obtain⟨xs,f,A,D⟩:=h;rw[u];exact⟨xs,f.kept (λb lo=>y _ b lo),Ar r _ _ A,D⟩
 |oag cs=>
  simp [AM]at h|-;obtain⟨vs,f,D,J⟩:=h;refine⟨vs,f,D,λi d hd=>?_⟩;obtain⟨x,Q,l⟩:=J i d hd;exact⟨x,Q,by rw[u];exact(l.Abr r (λb lo=>y _ b lo) (N _)).sr (λg lo j I=>M _ g lo j I)⟩
 |xn es=>
  simp [AM]at h|-;rw[u];exact(h.Abr r (λb lo=>y _ b lo) (N _)).sr (λg lo j I=>M _ g lo j I)
 |x1 n κ=>
  simp only[AM]at h|-;obtain⟨g,cap,x,f,A,D,K,J,R⟩:=h;rw[u];have:=r g 0 x D K;exact⟨g,cap,x,f,A,this.1,this.2,J,R.kept r (λb lo=>y _ b lo)⟩
 |mx m=>
  simp [AM]at h|-;rw[u,u];exact h.kept r (λb lo=>y _ b lo) (λb lo=>y _ b lo)
 |nh q i k=>
  simp only[AM]at h|-;intro C;obtain⟨l,E⟩:=O q i k rfl C;exact E _ (h l)
 |la q i=>
  simp only[AM]at h|-;intro C;obtain⟨l,E⟩:=H q i (.inl rfl) C;exact E _ (h l)
 |lp q i c=>
  simp only[AM]at h|-;intro C;obtain⟨l,E⟩:=H q i (.inr ⟨c,rfl⟩) C;obtain⟨g,len,cap,f,A⟩:=h l;exact⟨g,len,cap,E _ f,A⟩
theorem AM.kept{a a':Act}{w w':World}{F F':Nat->Nat->Prop}{G f:BR}{ε env':AB}
  (x:Bf w w' F F')(y:∀i,f s i=G s i)(A:∀i b lo,G s i=Y (b,lo)->w'.heap[b]?=w.heap[b]?)
  (B:sr a' f=sr a G)(C:BJ w w' (sr a G))
  (l:∀q i k,e=.nh q i k->(∃p,env'.nat q i=Y p)->(∃p,ε.nat q i=Y p)/\∀v,NH a w q i k v->NH a' w' q i k v)
  (m:∀q u,e=.bp q u->(∃cs,env'.get q=.bx cs)->(∃cs,ε.get q=.bx cs)/\slot a' q=slot a q)
  (r:∀q i,(e=.la q i\/∃c,e=.lp q i c)->(∃p,env'.o3 q i=Y p)->(∃p,ε.o3 q i=Y p)/\∀v,XV a w q i v->XV a' w' q i v)
  (h:AM a w F G ε s e v):AM a' w' F' f env' s e v:=
 AM.kept' x y A (λ_ g _ j _=>by rw[B]) (λ_=>BJ.spot C) l m r h
variable{q:Nat}{i:Option Nat}
theorem AP.xv{F0:Nat->Nat->Prop}{w0:W0}{ε:AB}{a a':Act}{w w':World}{G:BR}(h:AP F0 w0 ε a w G)(x:∃p,ε.o3 q i=Y p)(m:slot a' q=slot a q)(y:∀b,G q W=Y (b,0)->w'.heap[b]?=w.heap[b]?):∀v,XV a w q i v->XV a' w' q i v:=by
 intro v hv;cases i with
 |none=>exact hv.trans m.symm|some k=>
  obtain ⟨⟨n,es⟩,A⟩:=x;obtain⟨cs,g,_⟩:=AB.pc A;obtain⟨b,c,θ,u,B,C⟩:=hv;have f:q<a.tmps.size:=by
   rcases x_ q a.tmps.size with l|l
   .exact l
   .rw[h.dom q l]at g;cases g
  have r:=h.slots q f;rw[g]at r;obtain⟨E,c',H,j,I,_,D,_⟩:=r;rw[u]at j;simp at j;subst j;exact⟨b,c,θ,by rw[m,u],by rw[y b D];exact B,C⟩
theorem NK.at.kept{w w':World}{x:Value}{k:NK}(h:k.at w x v)(u:∀g len cap,x=.slice (Y ⟨g,0,W⟩) len cap->w'.heap[g]?=w.heap[g]?):k.at w' x v:=by
 have m:∀g len cap,x=.slice (Y ⟨g,0,W⟩) len cap->∀j,w'.cell? ⟨g,j,W⟩=w.cell? ⟨g,j,W⟩:=λg len cap e j=>World.cell?_of_block (w:=w) (w':=w') (a:=⟨g,j,W⟩) (u g len cap e);cases k with
 |hd=>exact h|el j=>exact h|rw j=>obtain⟨g,len,cap,e,h⟩:=h;exact⟨g,len,cap,e,by rw[m _ _ _ e];exact h⟩
 |rp j p=>obtain⟨g,len,cap,e,r,f,l,h,y⟩:=h;exact⟨g,len,cap,e,r,f,l,by rw[m _ _ _ e];exact h,y⟩
theorem NH.kept{a a':Act}{w w':World}{q i:Nat}{k:NK}(h:NH a w q i k v)(m:slot a' q=slot a q)(r:∀b,slot a q=.pointer (Y ⟨b,0,W⟩)->w'.heap[b]?=w.heap[b]?)
  (u:∀b c θ g len cap,slot a q=.pointer (Y ⟨b,0,W⟩)->w.heap[b]?=Y (.cells c θ (0,0))->c[i]?=Y (.slice (Y ⟨g,0,W⟩) len cap)->w'.heap[g]?=w.heap[g]?):NH a' w' q i k v:=by
 obtain ⟨b,c,θ,x,f,j,l,y⟩:=h;exact⟨b,c,θ,x,by rw[m];exact f,by rw[r b f];exact j,l,y.kept λg len cap e=>u b c θ g len cap f j (by rw[l,e])⟩
variable{ρ:IA}
theorem Fw.nil_or{w:World}{F:Nat->Nat->Prop}{z:Option (Nat×Nat)}{es:Fq}{g len cap:Nat}(h:Fw w F ρ z es (.slice (Y ⟨g,0,W⟩) len cap)):z=Y (g,0):=by
 obtain ⟨xs,⟨m,j,r⟩,_⟩:=h;rcases j.2 with⟨e,_⟩|⟨u,f,l,e,x,_,_,_,_,_,y⟩
 .cases e
 grind
theorem AP.lts{F0:Nat->Nat->Prop}{w0:W0}{ε:AB}{a:Act}{w:World}{G:BR}(h:AP F0 w0 ε a w G)(g:ε.get q≠.undef):q<a.tmps.size:=by
 rcases x_ q a.tmps.size with f|f
 .exact f
 .exact absurd (h.dom q f) g
theorem AP.nh{F0:Nat->Nat->Prop}{w0:W0}{ε:AB}{a a':Act}{w w':World}{G:BR}(h:AP F0 w0 ε a w G){q i:Nat}{k:NK}(y:∃p,ε.nat q i=Y p)(A:slot a' q=slot a q)(B:∀j b,(j=W\/j=Y i)->G q j=Y (b,0)->w'.heap[b]?=w.heap[b]?):∀v,NH a w q i k v->NH a' w' q i k v:=by
 intro v hv;obtain⟨es,I⟩:=y;obtain⟨cs,r,J⟩:=AB.pN I;have m:=h.slots q (h.lts (by rw[r];simp));rw[r]at m;obtain⟨M,c',N,f,u,_,O,K⟩:=m;refine hv.kept A (λb C=>?_) (λb c θ g len cap D E H=>?_)
 .grind
 .rw[D]at f;simp at f;subst f;rw[E]at u;cases u;obtain⟨x,l,L⟩:=K i _ J;rw[H]at l;simp at l;subst l;exact B (Y i) g (.inr rfl) (Fw.nil_or L)
theorem AP.AbC{F0:Nat->Nat->Prop}{w0:W0}{ε:AB}{a:Act}{w:World}{G:BR}(h:AP F0 w0 ε a w G)(u:s<a.tmps.size){b lo g j l f:Nat}(m:G s i=Y (b,lo))(r:sr a G g j=Y (l,f)):l≠b:=by
 rintro rfl;have:=(h.gi _ _ _ _ _ _ _ m r).1;omega
theorem Lz{a a':Act}{G f:BR}(g:a'.tmps.size=a.tmps.size)(h:∀s,a.tmps.size<=s->f s=G s):sr a' f=sr a G:=by grind[sr]
theorem Cx(a:Act)(d:Nat)(v:Value)(h:d<a.tmps.size):slot (a.put (Y d) v) d=v:=by
 simp [slot,Act.put,Array.getD_eq_getD_getElem?,h]
theorem AY(a:Act)(d s:Nat)(v:Value)(h:d≠s):slot (a.put (Y d) v) s=slot a s:=by
 simp [slot,Act.put,Array.getD_eq_getD_getElem?,Array.getElem?_setIfInBounds,h]
theorem Bj(a:Act)(d:Option Nat)(v:Value):(a.put d v).tmps.size=a.tmps.size:=by
 cases d<;>simp[Act.put]
theorem FG(a:Act)(d:Option Nat)(v:Value):(a.put d v).defers=a.defers:=by
 cases d<;>simp[Act.put]
def Q7(a:Act)(d:Nat)(a':Act):Prop:=∃v,a'=a.put (Y d) v
structure LT(N:Nat)(p:Option (Nat×Value))(a:Act):Prop where
 size:a.tmps.size=N
 pin:∀i v,p=Y (i,v)->slot a i=v
variable{d:Nat}
theorem LT.put{N:Nat}{p:Option (Nat×Value)}{a a':Act}(h:LT N p a)(hd:∀i v,p=Y (i,v)->Y d≠Y i)(k:Q7 a d a'):LT N p a':=by
 obtain ⟨v,rfl⟩:=k;exact⟨by rw[Bj];exact h.size,λi u f=>by rw[AY _ _ _ _ (λe=>hd i u f (by rw[e]))];exact h.pin i u f⟩
theorem Qe(w:World)(F:Nat->Nat->Prop):Bf w w F F:=λ_ _ _ f g=>⟨f,g⟩
variable{t:TV}
theorem AP.rem{F0:Nat->Nat->Prop}{w0:W0}{ε env':AB}{a:Act}{w:World}{G:BR}(h:AP F0 w0 ε a w G)(s:Nat)(A:s<a.tmps.size)(m:Aq w (AU w0.heap.size F0 G) t (slot a s))(x:t.WF)
  (l:∀n,env'.get n=ε.get n\/(n=s/\env'.get n=.tv t)):AP F0 w0 env' a w G:=by
 refine ⟨h.gi,h.lt,h.below,h.defers,λq u=>?_,λq u=>?_,λq=>?_⟩
 .rcases l q with e|⟨rfl,_⟩
  .rw[e];exact h.dom q u
  .omega
 .rcases l q with e|⟨rfl,e⟩
  .rw[e];refine AM.kept (Qe _ _) (λ_=>rfl) (λ_ _ _ _=>rfl) rfl BJ.rfl' (λr i k m⟨p,g⟩=>?_) (λr y m⟨cs,j⟩=>?_) (λr i m⟨p,g⟩=>?_) (h.slots q u)
   .rcases l r with f|⟨_,f⟩
    .rw[AB.Aap f]at g;exact⟨⟨p,g⟩,λ_ hv=>hv⟩
    .simp only[AB.nat,f]at g;cases g
   .rcases l r with f|⟨_,f⟩
    .rw[f]at j;exact⟨⟨cs,j⟩,rfl⟩
    .rw[f]at j;cases j
   .rcases l r with f|⟨_,f⟩
    .rw[AB.Aae f]at g;exact⟨⟨p,g⟩,λ_ hv=>hv⟩
    .cases i<;>simp[AB.o3,f]at g<;>cases g
  .rw[e];exact m
 .rcases l q with e|⟨_,e⟩
  .rw[e];exact h.wf q
  .rw[e];exact x
end Go.Sf
namespace Go.Sf
open Go.RowKit (Below)
theorem AB.po(d:Nat):∀(ε:AB),ε.ek d=X->∀s,(ε.get s).pr≠Y d
 |[],_,s=>by simp[AB.get,EV.pr]|(k,e)::r,f,s=>by
  simp [AB.ek]at f;rw[AB.bn];split
  .grind[EV.x8]
  .exact AB.po d r f.2 s
theorem AB.AaQ(d:Nat)(ε:AB)(h:ε.ek d=X)(s:Nat):(∀i,ε.get s≠.la d i)/\∀i c,ε.get s≠.lp d i c:=
 ⟨λi e=>AB.po d ε h s u',λi c e=>AB.po d ε h s u'⟩
theorem AB.AaJ(d:Nat)(ε:AB)(h:ε.ek d=X)(s f:Nat):ε.get s≠.bp d f:=
 λe=>AB.po d ε h s u'
variable{d:Nat}{e:EV}{i:Option Nat}{p:Nat×Fq}
theorem AB.AaS{ε:AB}(h:AB.o3 ((d,e)::ε) d i=Y p):(∃cs,e=.bx cs)\/(∃n es,e=.xo n es):=by
 obtain ⟨n,es⟩:=p;cases i with
 |none=>have:=AB.q0 h;rw[AB.bn,Ne rfl]at this;exact .inr ⟨n,es,this⟩|some k=>obtain⟨cs,f,_⟩:=AB.pc h;rw[AB.bn,Ne rfl]at f;exact .inl ⟨cs,f⟩
variable{q:Nat}
theorem AB.o4{ε:AB}(f:∀cs,e≠.bx cs)(g:∀n es,e≠.xo n es)(h:AB.o3 ((d,e)::ε) q i=Y p):d≠q/\ε.o3 q i=Y p:=by grind[AB.AaS,AB.Aae,AB.bn]
theorem AB.x7{ε:AB}(h:d≠q):AB.o3 ((d,e)::ε) q i=ε.o3 q i:=by grind[AB.Aae,AB.bn]
variable{s:Nat}{k:Option Nat}
theorem AB.noXs_iff:∀{ε:AB}{z:I2},AB.AbQ s k z ε=X↔∀p,p∉z->(ε.get p).noC s k=X
 |[],z=>by simp[AB.AbQ,AB.get,EV.noC]|(q,e)::r,z=>by
  simp [AB.AbQ,pE,AB.noXs_iff (ε:=r)]
  grind [AB.bn]
theorem AB.AaO{ε:AB}:ε.noX s k=X↔∀p,(ε.get p).noC s k=X:=
 AB.noXs_iff.trans ⟨λh p=>h p V,λh p _=>h p⟩
theorem AB.noX_all{s k:Nat}{ε:AB}(f:ε.noX s W=X):ε.noX s (Y k)=X:=by
 rw [AB.AaO]at f|-;intro p;have h:=f p;generalize ε.get p=e at h|-;cases e<;>try rfl
 .rename_i q i;cases i with
  |none=>rfl|some i=>simp[EV.noC]at h;simp[EV.noC,h]
 .rename_i q i c;cases i with
  |none=>rfl|some i=>simp[EV.noC]at h;simp[EV.noC,h]
 next q i c=>simp[EV.noC]at h;simp[EV.noC,h]
theorem AB.noX_ref{ε:AB}(f:ε.ek s=X):ε.noX s W=X:=by
 rw [AB.AaO];intro p;have h:=AB.po s ε f p;generalize ε.get p=e at h|-;cases e<;>try rfl
 .rename_i q i;cases i with
  |none=>rfl|some i=>simp[EV.noC,bne_iff_ne];exact λe=>h u'
 .rename_i q i c;cases i with
  |none=>rfl|some i=>simp[EV.noC,bne_iff_ne];exact λe=>h u'
 next q i c=>simp[EV.noC,bne_iff_ne];exact λe=>h u'
theorem AB.noX_nh{ε:AB}(f:ε.noX s k=X)(p j:Nat)(g:k=W\/k=Y j)(c:NK):ε.get p≠.nh s j c:=by grind[AB.AaO,EV.noC]
theorem AB.Abh(d:Nat)(ε:AB)(h:ε.ek d=X)(s:Nat):∀i c,ε.get s≠.nh d i c:=
 λi c e=>AB.po d ε h s u'
theorem AB.AaC{ε:AB}{d i:Nat}{p:Fq}(h:AB.nat ((d,e)::ε) d i=Y p):∃cs,e=.bx cs:=by grind[AB.pN,AB.bn]
theorem AB.tn{ε:AB}{d q i:Nat}{p:Fq}(f:∀cs,e≠.bx cs)(h:AB.nat ((d,e)::ε) q i=Y p):d≠q/\ε.nat q i=Y p:=by grind[AB.AaC,AB.Aap,AB.bn]
theorem AB.Aab{ε:AB}{d q i:Nat}(h:d≠q):AB.nat ((d,e)::ε) q i=ε.nat q i:=by grind[AB.Aap,AB.bn]
theorem AB.noX_spec{ε:AB}(f:ε.noX s k=X)(p j:Nat)(g:k=W\/k=Y j):ε.get p≠.la s (Y j)/\∀c,ε.get p≠.lp s (Y j) c:=by grind[AB.AaO,EV.noC]
def Je(G:BR)(d:Nat)(zd:Option Nat->Option (Nat×Nat)):BR:=λs=>if s=d then zd else G s
theorem B1(G:BR)(d:Nat)(f:Option Nat->Option (Nat×Nat)):Je G d f d=f:=by simp[Je]
theorem BE(G:BR)(d s:Nat)(f:Option Nat->Option (Nat×Nat))(h:s≠d):Je G d f s=G s:=by simp[Je,h]
section
variable{F0:Nat->Nat->Prop}{w0:W0}{ε:AB}{a:Act}{w:World}{G:BR}
theorem Kv{w':World}(u:Below w.heap.size w w')(d:Nat)(l:Option Nat->Option (Nat×Nat))(x:∀i b lo,l i=Y (b,lo)->w.heap.size<=b):
  Bf w w' (AU w0.heap.size F0 G) (AU w0.heap.size F0 (Je G d l)):=by
 intro b o v m hf;have j:b<w.heap.size:=World.block_lt_of_cell? w ⟨b,o,W⟩ m;refine⟨by rw[u.cell (p:=⟨b,o,W⟩) j];exact m,λg=>hf ?_⟩;rcases g with h|⟨s,i,lo,f,y⟩
 .exact .inl h
 .by_cases r:s=d
  .subst r;rw[B1]at f;have:=x i b lo f;omega
  .rw[BE _ _ _ _ r]at f;exact .inr ⟨s,i,lo,f,y⟩
theorem AP.AaY{w':World}(h:AP F0 w0 ε a w G)(f:Below w.heap.size w w'):BJ w w' (sr a G):=by
 intro g j b lo l;exact f.block b (h.lt _ _ _ _ l).1
theorem AP.quiet{w':World}(h:AP F0 w0 ε a w G)(C:Below w.heap.size w w')(d:Nat)(hd:d<a.tmps.size)(e:EV)(v:Value)
  (D:Option Nat->Option (Nat×Nat))(K:∀i b lo,D i=Y (b,lo)->w.heap.size<=b/\b<w'.heap.size)(L:∀i H b lo l,D i=Y (b,lo)->D H=Y (b,l)->i=H)
  (E:(∃cs,e=.bx cs)\/(∃n es,e=.xo n es)->ε.ek d=X)
  (J:AM (a.put (Y d) v) w' (AU w0.heap.size F0 (Je G d D)) (Je G d D) ((d,e)::ε) d e v)(M:e.WF):
  AP F0 w0 ((d,e)::ε) (a.put (Y d) v) w' (Je G d D):=by
 have O:=Kv (F0:=F0) (w0:=w0) (G:=G) C d D (λi b lo h=>(K i b lo h).1);refine⟨?_,?_,h.below.go C,i!,?_,?_,?_⟩
 .intro s i s' H b lo l m B;by_cases g:s=d<;>by_cases y:s'=d
  .subst g;subst y;rw[B1]at m B;exact⟨rfl,L i H b lo l m B⟩
  .subst g;rw[B1]at m;rw[BE _ _ _ _ y]at B;have:=(K i b lo m).1;have:=(h.lt s' H b l B).1;omega
  .subst y;rw[B1]at B;rw[BE _ _ _ _ g]at m;have:=(K H b l B).1;have:=(h.lt s i b lo m).1;omega
  .rw[BE _ _ _ _ g]at m;rw[BE _ _ _ _ y]at B;exact h.gi s i s' H b lo l m B
 .intro s i b lo m;by_cases g:s=d
  .subst g;rw[B1]at m;have:=K i b lo m;exact⟨this.2,.inl (w! h.below.size this.1)⟩
  .rw[BE _ _ _ _ g]at m;have:=h.lt s i b lo m;exact⟨w? this.1 C.size,this.2⟩
 .intro s g;rw[Bj]at g;rw[AB.bn,QQ U];exact h.dom s g
 .intro s g;rw[Bj]at g;rw[AB.bn];by_cases A:d=s
  .subst A;rw[Ne rfl,Cx _ _ _ hd];exact J
  .rw[QQ A,AY _ _ _ _ A];refine AM.kept O (λi=>by rw[BE _ _ _ _ (λe=>A e.symm)]) (λi b lo Q=>C.block b (h.lt s i b lo Q).1) (Lz (Bj _ _ _) (λs g=>BE _ _ _ _ U)) (h.AaY C) (λq i k u⟨p,x⟩=>?_) (λq N u⟨cs,r⟩=>?_) (λq i u⟨p,x⟩=>?_) (h.slots s g)
   .by_cases f:d=q
    .subst f;exact absurd u (AB.Abh d ε (E (.inl (AB.AaC x))) s i k)
    .rw[AB.Aab f]at x;exact⟨⟨p,x⟩,h.nh ⟨p,x⟩ (AY _ _ _ _ f) (λj b _ I=>C.block b (h.lt _ _ _ _ I).1)⟩
   .rw[AB.bn]at r;by_cases f:d=q
    .subst f;rw[Ne rfl]at r;exact absurd u (AB.AaJ d ε (E (.inl ⟨cs,r⟩)) s N)
    .rw[QQ f]at r;exact⟨⟨cs,r⟩,AY _ _ _ _ f⟩
   .by_cases f:d=q
    .subst f;have P:=AB.AaQ d ε (E (AB.AaS x)) s;rcases u with u|⟨c,u⟩
     .exact absurd u (P.1 i)
     .exact absurd u (P.2 i c)
    .rw[AB.x7 f]at x;exact⟨⟨p,x⟩,h.xv ⟨p,x⟩ (AY _ _ _ _ f) (λb I=>C.block b (h.lt _ _ _ _ I).1)⟩
 .intro s;rw[AB.bn];split
  .exact M
  .exact h.wf s
theorem AP.tv{w':World}(h:AP F0 w0 ε a w G)(j:Below w.heap.size w w')(d:Nat)(hd:d<a.tmps.size)(t:TV)(v:Value)
  (f:Aq w' (AU w0.heap.size F0 (Je G d λ_=>W)) t v)(g:t.WF):
  Bt F0 w0 ((d,.tv t)::ε) (a.put (Y d) v) w':=
 ⟨_,h.quiet j d hd (.tv t) v (λ_=>W) V V V f g⟩
theorem AP.tv_same(h:AP F0 w0 ε a w G)(d:Nat)(hd:d<a.tmps.size)(t:TV)(v:Value)
  (f:Aq w (AU w0.heap.size F0 G) t v)(g:t.WF):
  Bt F0 w0 ((d,.tv t)::ε) (a.put (Y d) v) w:=
 h.tv (Below.refl _ _) d hd t v (CH (Kv (Below.refl _ _) d _ V) t v f) g
theorem AP.ow{w':World}(h:AP F0 w0 ε a w G)(m:Below w.heap.size w w')(d:Nat)(hd:d<a.tmps.size)(t:TV)(v:Value)(z:Option (Nat×Nat))
  (r:∀b lo,z=Y (b,lo)->w.heap.size<=b/\b<w'.heap.size)
  (f:Bq w' (AU w0.heap.size F0 (Je G d λi=>if i=W then z else W)) z t v)(g:t.WF):
  Bt F0 w0 ((d,.ow t)::ε) (a.put (Y d) v) w':=by
 refine ⟨_,h.quiet m d hd (.ow t) v (λi=>if i=W then z else W) (λi b lo hi=>?_) (λi x b lo u j l=>?_) V ?_ g⟩
 .split at hi
  .exact r b lo hi
  .cases hi
 .split at j
  .split at l
   .simp_all
   .cases l
  .cases j
 .simp[AM,B1];exact f
end
section reads
variable{w:World}{F:Nat->Nat->Prop}
theorem WL(n:Nat):∀(es:Fq)(b o:Nat),(∀e∈es,e.cells.length=n)->DR w F (es.flatMap TV.cells) b o->Iq w F n es b o
 |[],_,_,_,_=>trivial|e::es,b,o,f,h=>by
  rw [Qm];have he:e.cells.length=n:=f e V;rw[List.flatMap_cons]at h;refine⟨by have:=eZ h e.cells.length;simpa using this,he,WL n es b (o+n) (λx g=>f x q_) ?_⟩;have:=Pp h e.cells.length
  grind
theorem Pg(n:Nat):∀(es:Fq),(∀e∈es,e.cells.length=n)->(es.flatMap TV.cells).length=es.length*n
 |[],_=>by simp|e::es,f=>by
  rw [List.flatMap_cons,aE,Pg n es (λx g=>f x q_),f e V,a5,Nat.add_mul,Nat.one_mul,Nat.add_comm]
variable{b o:Nat}
theorem R6{f:Fq}{xs:List Value}(h:AR w F f xs)(j:∀x∈xs,x.oneCell'=X)(l:∀(i:Nat)(x:Value),xs[i]?=Y x->w.cell? ⟨b,o+i,W⟩=Y x/\¬F b (o+i)):DR w F f b o:=by
 rw [JB];rw[Bh]at h;intro i t hi;have g:i<f.length:=by
  grind
 have m:xs[i]?=Y xs[i]:=List.getElem?_eq_getElem U
 grind
variable{size:Nat}{v:Value}{n:Nat}
theorem GU.cell{xs:List Value}{z:Option (Nat×Nat)}{g cap:Nat}(h:GU w size v n xs z)(hv:v=.slice (Y ⟨g,0,W⟩) n cap):∀(j:Nat)(u:Value),xs[j]?=Y u->w.cell? ⟨g,j,W⟩=Y u:=by
 intro j u y;rcases h.2 with⟨rfl,_⟩|⟨r,m,f,e,rfl,x,_,_,_,l,_⟩
 .cases hv
 .simp only[Value.slice.injEq,nm,Addr.mk.injEq]at hv;obtain⟨⟨rfl,_⟩,_⟩:=hv;rw[cell_of_row w r j f e (0,0) x]
  grind
variable{t:TV}
theorem Bq.rep{z:Option (Nat×Nat)}(h:Bq w F z t v)(u:∀b lo o,z=Y (b,lo)->o<lo->¬F b o):Aq w F t v:=by
 cases t<;>simp[Bq]at h;rename_i n es;obtain⟨xs,m,A,B,C⟩:=h;simp[Aq];rcases m.2 with⟨rfl,J,r⟩|⟨g,cap,D,e,rfl,K,j,E,H,l,r⟩
 .grind
 .refine⟨Y ⟨g,0,W⟩,cap,rfl,j,V,λI f=>?_⟩;simp at f;subst f;refine⟨.inr rfl,WL n es g 0 B (R6 A C λi x y=>?_)⟩;rw[Nat.zero_add];refine⟨m.cell rfl i x y,u g _ i r ?_⟩
  grind
variable{ρ:IA}
theorem ER.rep{z:Option (Nat×Nat)}(h:ER w F ρ z t v)(f:∀b lo o,z=Y (b,lo)->o<lo->¬F b o):Aq w F t v:=by
 cases t<;>first|exact Bq.rep h f|skip
 all_goals
  obtain ⟨xs,⟨m,j,_⟩,_⟩:=h;simp[Aq];rcases j.2 with⟨rfl,_⟩|⟨g,cap,l,e,rfl,_⟩<;>rfl
end reads
end Go.Sf
