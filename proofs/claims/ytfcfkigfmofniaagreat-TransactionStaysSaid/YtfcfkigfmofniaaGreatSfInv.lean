/- The invariant between an environment of the pure language and a frame with memory. -/
import Derived.Test.YtfcfkigfmofniaaGreatSfSem
import Derived.Laws.AppendOwn
set_option linter.all false
namespace Go.Sf
open Go.RowKit (Below)
def FW(w:World)(size:Nat)(v:Value)(n:Nat)(xs:List Value)(z:Option (Nat×Nat)):Prop:=
 xs.length=n*size/\
 ((v=.slice none 0 0/\n=0/\z=none)\/
 ∃g cap cur e,v=.slice (some ⟨g,0,none⟩) n cap/\w.heap[g]?=some (.cells cur e (0,0))/\n<=cap/\cap<=maxLen/\cur.size=cap*size/\cur.toList.take (n*size)=xs/\z=some (g,n*size))
def JY(w:World)(size:Nat)(v:Value)(n:Nat)(xs:List Value)(z:Option (Nat×Nat)):Prop:=
 ∃z0,FW w size v n xs z0/\z=z0.map fun p=>(p.1,0)
def Bl(w:World)(F:Nat->Nat->Prop)(z:Option (Nat×Nat)):TV->Value->Prop
 |.list n es,v=>∃xs,FW w n v es.length xs z/\AP w F (es.flatMap TV.cells) xs/\(∀e∈es,e.cells.length=n)/\∀x∈xs,x.oneCell'=true|_,_=>False
abbrev Hk:=Nat->Nat->Option (Nat×Nat)
def QT(w:World)(F:Nat->Nat->Prop)(z:Option (Nat×Nat))(n:Nat)(es:Fq)(v:Value):Prop:=
 ∃xs,JY w n v es.length xs z/\AP w F (es.flatMap TV.cells) xs/\(∀e∈es,e.cells.length=n)/\∀x∈xs,x.oneCell'=true
def Ey(w:World)(F:Nat->Nat->Prop)(ρ:Hk)(z:Option (Nat×Nat))(es:Fq)(v:Value):Prop:=
 ∃xs,JY w 1 v es.length xs z/\(∀x∈xs,x.oneCell'=true)/\∀(j:Nat)(e:TV),es[j]?=some e->∃g x n fs,z=some (g,0)/\xs[j]?=some x/\e=.list n fs/\QT w F (ρ g j) n fs x
def D1(w:World)(F:Nat->Nat->Prop)(ρ:Hk)(z:Option (Nat×Nat)):TV->Value->Prop
 |.xl n es,v=>∃xs,JY w n v es.length xs z/\AP w F (es.flatMap TV.cells) xs/\(∀e∈es,e.cells.length=n)/\∀x∈xs,x.oneCell'=true|.xn es,v=>Ey w F ρ z es v|t,v=>Bl w F z t v
variable{ρ:Hk}{t:TV}{v:Value}
theorem Bl.c{w:World}{F:Nat->Nat->Prop}{z:Option (Nat×Nat)}(h:Bl w F z t v):D1 w F ρ z t v:=by
 cases t<;>first|exact h|(simp[Bl]at h)
def A8(w:World)(F:Nat->Nat->Prop)(ρ:Hk)(z:Option (Nat×Nat))(c:AR)(v:Value):Prop:=
 match c with
 |⟨true,t⟩=>D1 w F ρ z t v|⟨false,t⟩=>Af w F t v/\v.oneCell'=true
abbrev BH:=Nat->Option Nat->Option (Nat×Nat)
def x8(a:Act)(G:BH):Hk:=fun g j=>G (a.tmps.size+g) (some j)
def AW(base:Nat)(F0:Nat->Nat->Prop)(G:BH)(b o:Nat):Prop:=(b<base/\F0 b o)\/∃s i lo,G s i=some (b,lo)/\lo<=o
def slot(a:Act)(s:Nat):Value:=a.tmps.getD s undef
def XV(a:Act)(w:World)(q:Nat)(i:Option Nat)(v:Value):Prop:=
 match i with
 |none=>v=slot a q|some k=>∃b c T,slot a q=.pointer (some ⟨b,0,none⟩)/\w.heap[b]?=some (.cells c T (0,0))/\c[k]?=some v
def NK.at(w:World)(x:Value):NK->Value->Prop
 |.hd,v=>v=x|.el j,v=>∃g len cap,x=.slice (some ⟨g,0,none⟩) len cap/\v=.pointer (some ⟨g,j,none⟩)|.rw j,v=>∃g len cap,x=.slice (some ⟨g,0,none⟩) len cap/\w.cell? ⟨g,j,none⟩=some v|.rp j p,v=>∃g len cap,x=.slice (some ⟨g,0,none⟩) len cap/\∃r len' cap',w.cell? ⟨g,j,none⟩=some (.slice (some ⟨r,0,none⟩) len' cap')/\v=.pointer (some ⟨r,p,none⟩)
def NH(a:Act)(w:World)(q i:Nat)(k:NK)(v:Value):Prop:=
 ∃b c T x,slot a q=.pointer (some ⟨b,0,none⟩)/\w.heap[b]?=some (.cells c T (0,0))/\c[i]?=some x/\k.at w x v
def EJ(k:Int×Int):Value:=.agg #[.int .i64 k.1,.int .i64 k.2]
def V1(w:World)(b:Nat)(kvs:BM):Prop:=
 ∃es clock,w.heap[b]?=some (.map es clock)/\es.toList.map (fun e=>(e.key,e.val))=kvs.map (fun p=>(EJ p.1,Value.int .i64 p.2))/\es.toList.Pairwise (fun x y=>x.born<y.born)/\∀e∈es.toList,e.born<clock
def gG(w:World)(r b:Nat)(last:Option ((Int×Int)×Int))(todo:BM):Prop:=
 ∃(es:Array MapEntry)(clock since c0:Nat)(seen:Array Nat),w.heap[b]?=some (.map es clock)/\w.heap[r]?=some (.mapIter (some b) since seen c0)/\es.toList.Pairwise (fun x y=>x.born<y.born)/\(∀e∈es.toList,e.born<since)/\since<=c0/\since<=clock/\
  (∀p,last=some p->∃(seen':Array Nat)(e:MapEntry),seen=seen'.push e.born/\e∈es.toList/\c0=clock/\e.key=EJ p.1/\e.val=.int .i64 p.2)/\
  ((es.toList.filter fun e=>!seen.contains e.born).map (fun e=>(e.key,e.val))).Perm (todo.map (fun p=>(EJ p.1,Value.int .i64 p.2)))
def Uk(w:World)(F:Nat->Nat->Prop)(z z2:Option (Nat×Nat)):MX->Value->Prop
 |.mp b kvs,v=>v=.map (some b)/\z=some (b,0)/\V1 w b kvs|.tm b kvs ts,v=>∃vs,v=.tuple (Value.map (some b)::vs).toArray/\z=some (b,0)/\V1 w b kvs/\AP w F ts vs|.mi last todo,v=>∃r b,v=.pointer (some ⟨r,0,none⟩)/\z=some (r,0)/\z2=some (b,0)/\gG w r b last todo
def AL(a:Act)(w:World)(F:Nat->Nat->Prop)(G:BH)(O:AB)(s:Nat):EV->Value->Prop
 |.undef,_=>True|.sk,v=>v=undef|.tv t,v=>Af w F t v|.ow t,v=>Bl w F (G s none) t v|.bx cs,v=>∃b c T,v=.pointer (some ⟨b,0,none⟩)/\w.heap[b]?=some (.cells c T (0,0))/\c.size=cs.length/\G s none=some (b,0)/\∀(i:Nat)(d:AR),cs[i]?=some d->∃x,c[i]?=some x/\A8 w F (x8 a G) (G s (some i)) d x|.bp q off,v=>(∃cs,O.get q=.bx cs)->∃b,slot a q=.pointer (some ⟨b,0,none⟩)/\v=.pointer (some ⟨b,off,none⟩)|.tp ts,v=>∃vs,v=.tuple vs/\AP w F ts vs.toList|.xo n es,v=>∃xs,JY w n v es.length xs (G s none)/\AP w F (es.flatMap TV.cells) xs/\(∀e∈es,e.cells.length=n)/\∀x∈xs,x.oneCell'=true|.yr cs,v=>∃vs,v=.agg vs/\vs.size=cs.length/\∀(i:Nat)(d:AR),cs[i]?=some d->∃x,vs[i]?=some x/\A8 w F (x8 a G) (G s (some i)) d x|.la q i,v=>(∃p,O.x4 q i=some p)->XV a w q i v|.lp q i c,v=>(∃p,O.x4 q i=some p)->∃g len cap,XV a w q i (.slice (some ⟨g,0,none⟩) len cap)/\v=.pointer (some ⟨g,c,none⟩)|.xn es,v=>Ey w F (x8 a G) (G s none) es v|.x1 n fs,v=>∃g cap x,v=.slice (some ⟨g,0,none⟩) 1 cap/\1<=cap/\w.cell? ⟨g,0,none⟩=some x/\¬F g 0/\x.oneCell'=true/\QT w F (G s none) n fs x|.nh q i k,v=>(∃es,O.nat q i=some es)->NH a w q i k v|.mx m,v=>Uk w F (G s none) (G s (some 0)) m v
def XJ(w:World)(E:Nat->Nat->Prop):Prop:=Ti w/\∀b o,E b o->bU<=b
structure W0 extends World where
 E:Nat->Nat->Prop
theorem D1.own{w:World}{F:Nat->Nat->Prop}{z:Option (Nat×Nat)}(h:D1 w F ρ z t v)(f:t.zt=false):Bl w F z t v:=by
 cases t<;>first|exact h|(simp[TV.zt]at f)
structure GX(F0:Nat->Nat->Prop)(w0:W0)(w:World):Prop where
 os:w.os=w0.os
 tape:w.tape=w0.tape
 output:w.output=w0.output
 size:w0.heap.size<=w.heap.size
 block:∀k,k<w0.heap.size->(∀o,¬w0.E k o)->w.heap[k]?=w0.heap[k]?
 cell:∀b o u,¬w0.E b o->w0.cell? ⟨b,o,none⟩=some u->w.cell? ⟨b,o,none⟩=some u
 free:∀b o o',w0.E b o->¬F0 b o'
 tab:XJ w0.toWorld w0.E
theorem GX.trans{F0:Nat->Nat->Prop}{w0:W0}{w w':World}(h:GX F0 w0 w)(j:w'.os=w.os)(l:w'.tape=w.tape)(m:w'.output=w.output)(r:w.heap.size<=w'.heap.size)(x:∀k,k<w0.heap.size->(∀o,¬w0.E k o)->w'.heap[k]?=w.heap[k]?)(y:∀b o u,b<w0.heap.size->¬w0.E b o->w.cell? ⟨b,o,none⟩=some u->w'.cell? ⟨b,o,none⟩=some u):GX F0 w0 w':=
 ⟨j.trans h.os,l.trans h.tape,m.trans h.output,Nat.le_trans h.size r,fun b f he=>(x b f he).trans (h.block b f he),fun b o u he g=>y b o u (World.block_lt_of_cell? _ ⟨b,o,none⟩ g) he (h.cell b o u he g),h.free,h.tab⟩
theorem GX.now{F0:Nat->Nat->Prop}{w0:W0}{w:World}(h:GX F0 w0 w):Ti w:=
 h.tab.1.fm fun b f=>h.block b (Nat.lt_of_lt_of_le f h.tab.1.lt) fun o e=>absurd (h.tab.2 b o e) (by omega)
theorem GX.but{F0:Nat->Nat->Prop}{w0:W0}{w w':World}(h:GX F0 w0 w)(f:w'.os=w.os)(g:w'.tape=w.tape)(j:w'.output=w.output)(l:w.heap.size<=w'.heap.size){Z:Nat->Prop}(m:∀b,Z b->w0.heap.size<=b\/∀o,w0.E b o)(r:∀k,k<w0.heap.size->¬Z k->w'.heap[k]?=w.heap[k]?):GX F0 w0 w':=
 h.trans f g j l (fun k x he=>r k x fun z=>(m k z).elim (fun e=>by omega) (fun e=>he 0 (e 0))) (fun b o u y he A=>by
  grind [World.cell?_of_block])
theorem GX.go{F0:Nat->Nat->Prop}{w0:W0}{w w':World}(h:GX F0 w0 w)(k:Below w.heap.size w w'):GX F0 w0 w':=
 h.trans k.os k.tape k.output k.size (fun b f _=>k.block b (Nat.lt_of_lt_of_le f h.size)) (fun b o u f _ g=>by rw[k.cell (p:=⟨b,o,none⟩) (Nat.lt_of_lt_of_le f h.size)];exact g)
structure AN(F0:Nat->Nat->Prop)(w0:W0)(O:AB)(a:Act)(w:World)(G:BH):Prop where
 ns:∀s i s' i' b lo lo',G s i=some (b,lo)->G s' i'=some (b,lo')->s=s'/\i=i'
 lt:∀s i b lo,G s i=some (b,lo)->b<w.heap.size/\(w0.heap.size<=b\/∀o,lo<=o->w0.E b o)
 below:GX F0 w0 w
 defers:a.defers=[]
 dom:∀s,a.tmps.size<=s->O.get s=.undef
 slots:∀s,s<a.tmps.size->AL a w (AW w0.heap.size F0 G) G O s (O.get s) (slot a s)
 wf:∀s,(O.get s).WF
variable{s:Nat}{i:Option Nat}
theorem AN.low{F0:Nat->Nat->Prop}{w0:W0}{O:AB}{a:Act}{w:World}{G:BH}(h:AN F0 w0 O a w G){b lo:Nat}(e:G s i=some (b,lo)):bU<=b:=
 (h.lt _ _ _ _ e).2.elim (fun k=>Nat.le_trans h.below.tab.1.lt k) fun k=>h.below.tab.2 b lo (k lo (b6 _))
def Bg(F0:Nat->Nat->Prop)(w0:W0)(O:AB)(a:Act)(w:World):Prop:=∃G,AN F0 w0 O a w G
theorem AB.d6(k:Nat)(e:EV)(O:AB)(n:Nat):AB.get ((k,e)::O) n=if k=n then e else O.get n:=rfl
theorem AB.get_map_keep(O:AB):∀(live:QQ)(n:Nat),AB.get (live.map fun s=>(s,O.get s)) n=if n∈live then O.get n else .undef
 |[],n=>by simp[AB.get]|s::live,n=>by
  simp [AB.get,AB.get_map_keep O live n]
  grind
theorem AB.zf(O:AB)(live:QQ)(n:Nat):(O.fm live).get n=if n∈live then O.get n else .undef:=AB.get_map_keep O live n
variable{q:Nat}
theorem AB.yx{O env':AB}(h:env'.get q=O.get q):env'.x4 q i=O.x4 q i:=by
 cases i<;>simp[AB.x4,h]
theorem AB.zq{O:AB}(h:O.get q=.undef):O.x4 q i=none:=by
 cases i<;>simp[AB.x4,h]
variable{live:QQ}
theorem AB.xat_keep{O:AB}(h:∃p,(O.fm live).x4 q i=some p):∃p,O.x4 q i=some p:=by grind[AB.yx,AB.zf,AB.zq]
variable{n:Nat}
theorem AB.tl{O:AB}{q k:Nat}{es:Fq}(h:O.x4 q (some k)=some (n,es)):∃cs,O.get q=.bx cs/\cs[k]?=some ⟨true,.xl n es⟩:=by grind[AB.x4,tn]
theorem AB.x6{O:AB}{es:Fq}(h:O.x4 q none=some (n,es)):O.get q=.xo n es:=by grind[AB.x4,tn]
theorem AB.y4{O env':AB}{i:Nat}(h:env'.get q=O.get q):env'.nat q i=O.nat q i:=by
 simp [AB.nat,h]
theorem AB.nat_undef{O:AB}{i:Nat}(h:O.get q=.undef):O.nat q i=none:=by
 simp [AB.nat,h]
theorem AB.nat_keep{O:AB}{i:Nat}(h:∃p,(O.fm live).nat q i=some p):∃p,O.nat q i=some p:=by grind[AB.y4,AB.zf,AB.nat_undef]
theorem AB.x3{O:AB}{q k:Nat}{es:Fq}(h:O.nat q k=some es):∃cs,O.get q=.bx cs/\cs[k]?=some ⟨true,.xn es⟩:=by grind[AB.nat,tn]
variable{b o:Nat}
theorem AW.mono{base:Nat}{F0:Nat->Nat->Prop}{G j:BH}(h:∀s i b lo,j s i=some (b,lo)->∃s' g f,G s' g=some (b,f)/\f<=lo)(hf:AW base F0 j b o):AW base F0 G b o:=by
 rcases hf with hf|⟨s,i,lo,r,u⟩
 .exact .inl hf
 .obtain⟨s',g,f,l,m⟩:=h s i b lo r;exact .inr ⟨s',g,f,l,Nat.le_trans m u⟩
theorem Bg.fm{F0:Nat->Nat->Prop}{w0:W0}{O:AB}{a:Act}{w:World}(h:Bg F0 w0 O a w)(live:QQ):Bg F0 w0 (O.fm live) a w:=by
 obtain ⟨G,g⟩:=h;refine⟨G,g.ns,g.lt,g.below,g.defers,fun s l=>?_,fun s l=>?_,fun s=>?_⟩
 .rw[AB.zf,g.dom s l];split<;>rfl
 .have:=g.slots s l;rw[AB.zf];split
  .cases he:O.get s with
   |bp q r=>
    rw [he]at this;simp only[AL]at this|-;rintro⟨cs,f⟩;rw[AB.zf]at f;split at f
    .exact this ⟨cs,f⟩
    .cases f
   |undef=>trivial|sk=>rw[he]at this;exact this|tv t=>rw[he]at this;exact this|ow t=>rw[he]at this;exact this|bx cs=>rw[he]at this;exact this|tp u=>rw[he]at this;exact this|xo n es=>rw[he]at this;exact this|yr cs=>rw[he]at this;exact this|xn es=>rw[he]at this;exact this|x1 n x=>rw[he]at this;exact this|mx m=>rw[he]at this;exact this|nh q i k=>
    rw [he]at this;simp only[AL]at this|-;exact fun j=>this (AB.nat_keep j)
   |la q i=>
    rw [he]at this;simp only[AL]at this|-;exact fun j=>this (AB.xat_keep j)
   |lp q i c=>
    rw [he]at this;simp only[AL]at this|-;exact fun j=>this (AB.xat_keep j)
  .trivial
 .rw[AB.zf];split
  .exact g.wf s
  .trivial
section own
variable{w w':World}{F F':Nat->Nat->Prop}{z:Option (Nat×Nat)}
variable{size:Nat}{v:Value}{n:Nat}
theorem FW.kept{xs:List Value}(h:FW w size v n xs z)(l:∀b lo,z=some (b,lo)->w'.heap[b]?=w.heap[b]?):FW w' size v n xs z:=by
 refine ⟨h.1,?_⟩;rcases h.2 with f|⟨g,cap,j,e,m,r,u,x,y,A,B⟩
 .exact .inl f
 grind
theorem JY.kept{xs:List Value}(h:JY w size v n xs z)(g:∀b lo,z=some (b,lo)->w'.heap[b]?=w.heap[b]?):JY w' size v n xs z:=by
 obtain ⟨l,m,f⟩:=h;exact⟨l,m.kept (fun b lo j=>g b 0 (by rw[f,j];rfl)),f⟩
variable{t:TV}
theorem Bl.kept(f:BS w w' F F')(h:Bl w F z t v)(g:∀b lo,z=some (b,lo)->w'.heap[b]?=w.heap[b]?):Bl w' F' z t v:=by
 cases t<;>simp[Bl]at h|-;obtain⟨xs,j,l,m⟩:=h;exact⟨xs,j.kept g,Aj f _ _ l,m⟩
theorem QT.kept{es:Fq}(f:BS w w' F F')(h:QT w F z n es v)(g:∀b lo,z=some (b,lo)->w'.heap[b]?=w.heap[b]?):QT w' F' z n es v:=by
 obtain ⟨xs,j,l,m⟩:=h;exact⟨xs,j.kept g,Aj f _ _ l,m⟩
def BA(w w':World)(ρ:Hk):Prop:=∀g j b lo,ρ g j=some (b,lo)->w'.heap[b]?=w.heap[b]?
variable{ρ:Hk}
theorem BA.rfl'{w:World}:BA w w ρ:=fun _ _ _ _ _=>rfl
theorem Ey.kept{es:Fq}(f:BS w w' F F')(h:Ey w F ρ z es v)(l:∀b lo,z=some (b,lo)->w'.heap[b]?=w.heap[b]?)(m:BA w w' ρ):Ey w' F' ρ z es v:=by
 obtain ⟨xs,y,A,B⟩:=h;refine⟨xs,y.kept l,A,fun j e r=>?_⟩;obtain⟨g,x,n,C,D,E,H,I⟩:=B j e r;exact⟨g,x,n,C,D,E,H,I.kept f (fun b lo u=>m g j b lo u)⟩
def V3(w w':World)(ρ:Hk)(z:Option (Nat×Nat)):Prop:=∀g lo j b lo',z=some (g,lo)->ρ g j=some (b,lo')->w'.heap[b]?=w.heap[b]?
theorem BA.spot{w w':World}{z:Option (Nat×Nat)}(h:BA w w' ρ):V3 w w' ρ z:=fun g _ j b f _ l=>h g j b f l
theorem Ey.Aap{es:Fq}(l:BS w w' F F')(h:Ey w F ρ z es v)(m:∀b lo,z=some (b,lo)->w'.heap[b]?=w.heap[b]?)(r:V3 w w' ρ z):Ey w' F' ρ z es v:=by
 obtain ⟨xs,A,B,C⟩:=h;refine⟨xs,A.kept m,B,fun j e u=>?_⟩;obtain⟨g,x,n,D,f,E,H,I⟩:=C j e u;exact⟨g,x,n,D,f,E,H,I.kept l (fun b lo y=>r g 0 j b lo f y)⟩
variable{ρ':Hk}
theorem Ey.x8{es:Fq}(h:Ey w F ρ z es v)(m:∀g lo j,z=some (g,lo)->ρ' g j=ρ g j):Ey w F ρ' z es v:=by
 obtain ⟨xs,f,l,u⟩:=h;refine⟨xs,f,l,fun j e r=>?_⟩
 grind
variable{c:AR}
theorem A8.x8(h:A8 w F ρ z c v)(f:∀g lo j,z=some (g,lo)->ρ' g j=ρ g j):A8 w F ρ' z c v:=by
 obtain ⟨_|_,t⟩:=c
 .exact h
 .cases t<;>first|exact h|exact Ey.x8 h f
theorem D1.kept(f:BS w w' F F')(h:D1 w F ρ z t v)(g:∀b lo,z=some (b,lo)->w'.heap[b]?=w.heap[b]?)(j:BA w w' ρ):D1 w' F' ρ z t v:=by
 cases t<;>simp[D1]at h|- <;>first|exact Bl.kept f h g|exact Ey.kept f h g j|skip
 obtain ⟨xs,l,m,r⟩:=h;exact⟨xs,l.kept g,Aj f _ _ m,r⟩
theorem A8.kept(f:BS w w' F F')(h:A8 w F ρ z c v)(g:∀b lo,z=some (b,lo)->w'.heap[b]?=w.heap[b]?)(j:BA w w' ρ):A8 w' F' ρ z c v:=by
 obtain ⟨_|_,t⟩:=c
 .exact⟨By f _ _ h.1,h.2⟩
 .exact D1.kept f h g j
theorem A8.Aap(f:BS w w' F F')(h:A8 w F ρ z c v)(g:∀b lo,z=some (b,lo)->w'.heap[b]?=w.heap[b]?)(j:V3 w w' ρ z):A8 w' F' ρ z c v:=by
 obtain ⟨_|_,t⟩:=c
 .exact⟨By f _ _ h.1,h.2⟩
 .replace h:D1 w F ρ z t v:=h;show D1 w' F' ρ z t v;cases t<;>simp[D1]at h|- <;>first|exact Bl.kept f h g|exact Ey.Aap f h g j|skip
  obtain ⟨xs,l,m,r⟩:=h;exact⟨xs,l.kept g,Aj f _ _ m,r⟩
end own
variable{v:Value}
theorem Uk.kept{w w':World}{F F':Nat->Nat->Prop}{z z2:Option (Nat×Nat)}{m:MX}(B:BS w w' F F')(h:Uk w F z z2 m v)(l:∀b lo,z=some (b,lo)->w'.heap[b]?=w.heap[b]?)(u:∀b lo,z2=some (b,lo)->w'.heap[b]?=w.heap[b]?):Uk w' F' z z2 m v:=by
 cases m with
 |mp b y=>
  obtain ⟨j,f,g⟩:=h;exact⟨j,f,by unfold V1;rw[l _ _ f];exact g⟩
 |tm b y C=>
  obtain ⟨vs,j,f,g,x⟩:=h;exact⟨vs,j,f,by unfold V1;rw[l _ _ f];exact g,Aj B _ _ x⟩
 |mi last A=>
  obtain ⟨r,b,j,f,g,x⟩:=h;exact⟨r,b,j,f,g,by unfold gG;rw[l _ _ f,u _ _ g];exact x⟩
variable{s:Nat}{e:EV}
theorem AL.kept'{a a':Act}{w w':World}{F F':Nat->Nat->Prop}{G L:BH}{O env':AB}
  (r:BS w w' F F')(u:∀i,L s i=G s i)(y:∀i b lo,G s i=some (b,lo)->w'.heap[b]?=w.heap[b]?)
  (M:∀i g lo j,G s i=some (g,lo)->x8 a' L g j=x8 a G g j)(N:∀i,V3 w w' (x8 a G) (G s i))
  (P:∀q i k,e=.nh q i k->(∃p,env'.nat q i=some p)->(∃p,O.nat q i=some p)/\∀v,NH a w q i k v->NH a' w' q i k v)
  (Q:∀q B,e=.bp q B->(∃cs,env'.get q=.bx cs)->(∃cs,O.get q=.bx cs)/\slot a' q=slot a q)
  (H:∀q i,(e=.la q i\/∃c,e=.lp q i c)->(∃p,env'.x4 q i=some p)->(∃p,O.x4 q i=some p)/\∀v,XV a w q i v->XV a' w' q i v)
  (h:AL a w F G O s e v):AL a' w' F' L env' s e v:=by
 cases e with
 |undef=>trivial|sk=>exact h|tv t=>exact By r t v h|ow t=>
  simp [AL]at h|-;rw[u];exact h.kept r (fun b lo=>y _ b lo)
 |bx cs=>
  simp only[AL]at h|-;obtain⟨b,c,T,f,A,D,K,J⟩:=h;refine⟨b,c,T,f,by rw[y _ _ _ K];exact A,D,by rw[u];exact K,fun i d hd=>?_⟩;obtain⟨x,R,l⟩:=J i d hd;exact⟨x,R,by rw[u];exact(l.Aap r (fun b lo=>y _ b lo) (N _)).x8 (fun g lo j I=>M _ g lo j I)⟩
 |bp q B=>
  simp only[AL]at h|-;intro C;obtain⟨l,E⟩:=Q q B rfl C;rw[E];exact h l
 |tp U=>
  simp [AL]at h|-;obtain⟨vs,f,A⟩:=h;exact⟨vs,f,Aj r _ _ A⟩
 |xo n es=>
  simp [AL]at h|-;obtain⟨xs,f,A,D⟩:=h;rw[u];exact⟨xs,f.kept (fun b lo=>y _ b lo),Aj r _ _ A,D⟩
 |yr cs=>
  simp [AL]at h|-;obtain⟨vs,f,D,J⟩:=h;refine⟨vs,f,D,fun i d hd=>?_⟩;obtain⟨x,R,l⟩:=J i d hd;exact⟨x,R,by rw[u];exact(l.Aap r (fun b lo=>y _ b lo) (N _)).x8 (fun g lo j I=>M _ g lo j I)⟩
 |xn es=>
  simp [AL]at h|-;rw[u];exact(h.Aap r (fun b lo=>y _ b lo) (N _)).x8 (fun g lo j I=>M _ g lo j I)
 |x1 n V=>
  simp only[AL]at h|-;obtain⟨g,cap,x,f,A,D,K,J,S⟩:=h;rw[u];have:=r g 0 x D K;exact⟨g,cap,x,f,A,this.1,this.2,J,S.kept r (fun b lo=>y _ b lo)⟩
 |mx m=>
  simp [AL]at h|-;rw[u,u];exact h.kept r (fun b lo=>y _ b lo) (fun b lo=>y _ b lo)
 |nh q i k=>
  simp only[AL]at h|-;intro C;obtain⟨l,E⟩:=P q i k rfl C;exact E _ (h l)
 |la q i=>
  simp only[AL]at h|-;intro C;obtain⟨l,E⟩:=H q i (.inl rfl) C;exact E _ (h l)
 |lp q i c=>
  simp only[AL]at h|-;intro C;obtain⟨l,E⟩:=H q i (.inr ⟨c,rfl⟩) C;obtain⟨g,len,cap,f,A⟩:=h l;exact⟨g,len,cap,E _ f,A⟩
theorem AL.kept{a a':Act}{w w':World}{F F':Nat->Nat->Prop}{G f:BH}{O env':AB}
  (x:BS w w' F F')(y:∀i,f s i=G s i)(A:∀i b lo,G s i=some (b,lo)->w'.heap[b]?=w.heap[b]?)
  (B:x8 a' f=x8 a G)(C:BA w w' (x8 a G))
  (l:∀q i k,e=.nh q i k->(∃p,env'.nat q i=some p)->(∃p,O.nat q i=some p)/\∀v,NH a w q i k v->NH a' w' q i k v)
  (m:∀q u,e=.bp q u->(∃cs,env'.get q=.bx cs)->(∃cs,O.get q=.bx cs)/\slot a' q=slot a q)
  (r:∀q i,(e=.la q i\/∃c,e=.lp q i c)->(∃p,env'.x4 q i=some p)->(∃p,O.x4 q i=some p)/\∀v,XV a w q i v->XV a' w' q i v)
  (h:AL a w F G O s e v):AL a' w' F' f env' s e v:=
 AL.kept' x y A (fun _ g _ j _=>by rw[B]) (fun _=>BA.spot C) l m r h
variable{q:Nat}{i:Option Nat}
theorem AN.xv{F0:Nat->Nat->Prop}{w0:W0}{O:AB}{a a':Act}{w w':World}{G:BH}(h:AN F0 w0 O a w G)(x:∃p,O.x4 q i=some p)(m:slot a' q=slot a q)(y:∀b,G q none=some (b,0)->w'.heap[b]?=w.heap[b]?):∀v,XV a w q i v->XV a' w' q i v:=by
 intro v hv;cases i with
 |none=>exact hv.trans m.symm|some k=>
  obtain ⟨⟨n,es⟩,A⟩:=x;obtain⟨cs,g,_⟩:=AB.tl A;obtain⟨b,c,T,u,B,C⟩:=hv;have f:q<a.tmps.size:=by
   rcases Nat.lt_or_ge q a.tmps.size with l|l
   .exact l
   .rw[h.dom q l]at g;cases g
  have r:=h.slots q f;rw[g]at r;obtain⟨E,c',H,j,I,_,D,_⟩:=r;rw[u]at j;simp at j;subst j;exact⟨b,c,T,by rw[m,u],by rw[y b D];exact B,C⟩
theorem NK.at.kept{w w':World}{x:Value}{k:NK}(h:k.at w x v)(u:∀g len cap,x=.slice (some ⟨g,0,none⟩) len cap->w'.heap[g]?=w.heap[g]?):k.at w' x v:=by
 have m:∀g len cap,x=.slice (some ⟨g,0,none⟩) len cap->∀j,w'.cell? ⟨g,j,none⟩=w.cell? ⟨g,j,none⟩:=fun g len cap e j=>World.cell?_of_block (w:=w) (w':=w') (a:=⟨g,j,none⟩) (u g len cap e);cases k with
 |hd=>exact h|el j=>exact h|rw j=>obtain⟨g,len,cap,e,h⟩:=h;exact⟨g,len,cap,e,by rw[m _ _ _ e];exact h⟩
 |rp j p=>obtain⟨g,len,cap,e,r,f,l,h,y⟩:=h;exact⟨g,len,cap,e,r,f,l,by rw[m _ _ _ e];exact h,y⟩
theorem NH.kept{a a':Act}{w w':World}{q i:Nat}{k:NK}(h:NH a w q i k v)(m:slot a' q=slot a q)(r:∀b,slot a q=.pointer (some ⟨b,0,none⟩)->w'.heap[b]?=w.heap[b]?)
  (u:∀b c T g len cap,slot a q=.pointer (some ⟨b,0,none⟩)->w.heap[b]?=some (.cells c T (0,0))->c[i]?=some (.slice (some ⟨g,0,none⟩) len cap)->w'.heap[g]?=w.heap[g]?):NH a' w' q i k v:=by
 obtain ⟨b,c,T,x,f,j,l,y⟩:=h;exact⟨b,c,T,x,by rw[m];exact f,by rw[r b f];exact j,l,y.kept fun g len cap e=>u b c T g len cap f j (by rw[l,e])⟩
variable{ρ:Hk}
theorem Ey.nil_or{w:World}{F:Nat->Nat->Prop}{z:Option (Nat×Nat)}{es:Fq}{g len cap:Nat}(h:Ey w F ρ z es (.slice (some ⟨g,0,none⟩) len cap)):z=some (g,0):=by
 obtain ⟨xs,⟨m,j,r⟩,_⟩:=h;rcases j.2 with⟨e,_⟩|⟨u,f,l,e,x,_,_,_,_,_,y⟩
 .cases e
 grind
theorem AN.lts{F0:Nat->Nat->Prop}{w0:W0}{O:AB}{a:Act}{w:World}{G:BH}(h:AN F0 w0 O a w G)(g:O.get q≠.undef):q<a.tmps.size:=by
 rcases Nat.lt_or_ge q a.tmps.size with f|f
 .exact f
 .exact absurd (h.dom q f) g
theorem AN.nh{F0:Nat->Nat->Prop}{w0:W0}{O:AB}{a a':Act}{w w':World}{G:BH}(h:AN F0 w0 O a w G){q i:Nat}{k:NK}(y:∃p,O.nat q i=some p)(A:slot a' q=slot a q)(B:∀j b,(j=none\/j=some i)->G q j=some (b,0)->w'.heap[b]?=w.heap[b]?):∀v,NH a w q i k v->NH a' w' q i k v:=by
 intro v hv;obtain⟨es,I⟩:=y;obtain⟨cs,r,J⟩:=AB.x3 I;have m:=h.slots q (h.lts (by rw[r];simp));rw[r]at m;obtain⟨M,c',N,f,u,_,P,K⟩:=m;refine hv.kept A (fun b C=>?_) (fun b c T g len cap D E H=>?_)
 .grind
 .rw[D]at f;simp at f;subst f;rw[E]at u;cases u;obtain⟨x,l,L⟩:=K i _ J;rw[H]at l;simp at l;subst l;exact B (some i) g (.inr rfl) (Ey.nil_or L)
theorem AN.AaD{F0:Nat->Nat->Prop}{w0:W0}{O:AB}{a:Act}{w:World}{G:BH}(h:AN F0 w0 O a w G)(u:s<a.tmps.size){b lo g j l f:Nat}(m:G s i=some (b,lo))(r:x8 a G g j=some (l,f)):l≠b:=by
 rintro rfl;have:=(h.ns _ _ _ _ _ _ _ m r).1;omega
theorem MW{a a':Act}{G f:BH}(g:a'.tmps.size=a.tmps.size)(h:∀s,a.tmps.size<=s->f s=G s):x8 a' f=x8 a G:=by grind[x8]
theorem CS(a:Act)(d:Nat)(v:Value)(h:d<a.tmps.size):slot (a.put (some d) v) d=v:=by
 simp [slot,Act.put,Array.getD_eq_getD_getElem?,h]
theorem AY(a:Act)(d s:Nat)(v:Value)(h:d≠s):slot (a.put (some d) v) s=slot a s:=by
 simp [slot,Act.put,Array.getD_eq_getD_getElem?,Array.getElem?_setIfInBounds,h]
theorem BT(a:Act)(d:Option Nat)(v:Value):(a.put d v).tmps.size=a.tmps.size:=by
 cases d<;>simp[Act.put]
theorem EO(a:Act)(d:Option Nat)(v:Value):(a.put d v).defers=a.defers:=by
 cases d<;>simp[Act.put]
def QS(a:Act)(d:Nat)(a':Act):Prop:=∃v,a'=a.put (some d) v
structure Km(N:Nat)(p:Option (Nat×Value))(a:Act):Prop where
 size:a.tmps.size=N
 pin:∀i v,p=some (i,v)->slot a i=v
variable{d:Nat}
theorem Km.put{N:Nat}{p:Option (Nat×Value)}{a a':Act}(h:Km N p a)(hd:∀i v,p=some (i,v)->some d≠some i)(k:QS a d a'):Km N p a':=by
 obtain ⟨v,rfl⟩:=k;exact⟨by rw[BT];exact h.size,fun i u f=>by rw[AY _ _ _ _ (fun e=>hd i u f (by rw[e]))];exact h.pin i u f⟩
theorem P1(w:World)(F:Nat->Nat->Prop):BS w w F F:=fun _ _ _ f g=>⟨f,g⟩
variable{t:TV}
theorem AN.rem{F0:Nat->Nat->Prop}{w0:W0}{O env':AB}{a:Act}{w:World}{G:BH}(h:AN F0 w0 O a w G)(s:Nat)(A:s<a.tmps.size)(m:Af w (AW w0.heap.size F0 G) t (slot a s))(x:t.WF)
  (l:∀n,env'.get n=O.get n\/(n=s/\env'.get n=.tv t)):AN F0 w0 env' a w G:=by
 refine ⟨h.ns,h.lt,h.below,h.defers,fun q u=>?_,fun q u=>?_,fun q=>?_⟩
 .rcases l q with e|⟨rfl,_⟩
  .rw[e];exact h.dom q u
  .omega
 .rcases l q with e|⟨rfl,e⟩
  .rw[e];refine AL.kept (P1 _ _) (fun _=>rfl) (fun _ _ _ _=>rfl) rfl BA.rfl' (fun r i k m⟨p,g⟩=>?_) (fun r y m⟨cs,j⟩=>?_) (fun r i m⟨p,g⟩=>?_) (h.slots q u)
   .rcases l r with f|⟨_,f⟩
    .rw[AB.y4 f]at g;exact⟨⟨p,g⟩,fun _ hv=>hv⟩
    .simp only[AB.nat,f]at g;cases g
   .rcases l r with f|⟨_,f⟩
    .rw[f]at j;exact⟨⟨cs,j⟩,rfl⟩
    .rw[f]at j;cases j
   .rcases l r with f|⟨_,f⟩
    .rw[AB.yx f]at g;exact⟨⟨p,g⟩,fun _ hv=>hv⟩
    .cases i<;>simp[AB.x4,f]at g<;>cases g
  .rw[e];exact m
 .rcases l q with e|⟨_,e⟩
  .rw[e];exact h.wf q
  .rw[e];exact x
end Go.Sf
namespace Go.Sf
open Go.RowKit (Below)
theorem AB.yh(d:Nat):∀(O:AB),O.gt d=true->∀s,(O.get s).yc≠some d
 |[],_,s=>by simp[AB.get,EV.yc]|(k,e)::r,f,s=>by
  simp [AB.gt]at f;rw[AB.d6];split
  .grind[EV.yz]
  .exact AB.yh d r f.2 s
theorem AB.zJ(d:Nat)(O:AB)(h:O.gt d=true)(s:Nat):(∀i,O.get s≠.la d i)/\∀i c,O.get s≠.lp d i c:=
 ⟨fun i e=>AB.yh d O h s (by rw[e];rfl),fun i c e=>AB.yh d O h s (by rw[e];rfl)⟩
theorem AB.zB(d:Nat)(O:AB)(h:O.gt d=true)(s f:Nat):O.get s≠.bp d f:=
 fun e=>AB.yh d O h s (by rw[e];rfl)
variable{d:Nat}{e:EV}{i:Option Nat}{p:Nat×Fq}
theorem AB.zI{O:AB}(h:AB.x4 ((d,e)::O) d i=some p):(∃cs,e=.bx cs)\/(∃n es,e=.xo n es):=by
 obtain ⟨n,es⟩:=p;cases i with
 |none=>have:=AB.x6 h;rw[AB.d6,ae rfl]at this;exact .inr ⟨n,es,this⟩|some k=>obtain⟨cs,f,_⟩:=AB.tl h;rw[AB.d6,ae rfl]at f;exact .inl ⟨cs,f⟩
variable{q:Nat}
theorem AB.t5{O:AB}(f:∀cs,e≠.bx cs)(g:∀n es,e≠.xo n es)(h:AB.x4 ((d,e)::O) q i=some p):d≠q/\O.x4 q i=some p:=by grind[AB.zI,AB.yx,AB.d6]
theorem AB.yq{O:AB}(h:d≠q):AB.x4 ((d,e)::O) q i=O.x4 q i:=by grind[AB.yx,AB.d6]
variable{s:Nat}{k:Option Nat}
theorem AB.noXs_iff:∀{O:AB}{z:QQ},AB.AaM s k z O=true↔∀p,p∉z->(O.get p).noC s k=true
 |[],z=>by simp[AB.AaM,AB.get,EV.noC]|(q,e)::r,z=>by
  simp [AB.AaM,yf,AB.noXs_iff (O:=r)]
  grind [AB.d6]
theorem AB.z1{O:AB}:O.noX s k=true↔∀p,(O.get p).noC s k=true:=
 AB.noXs_iff.trans ⟨fun h p=>h p (by simp),fun h p _=>h p⟩
theorem AB.noX_all{s k:Nat}{O:AB}(f:O.noX s none=true):O.noX s (some k)=true:=by
 rw [AB.z1]at f|-;intro p;have h:=f p;generalize O.get p=e at h|-;cases e<;>try rfl
 .rename_i q i;cases i with
  |none=>rfl|some i=>simp[EV.noC]at h;simp[EV.noC,h]
 .rename_i q i c;cases i with
  |none=>rfl|some i=>simp[EV.noC]at h;simp[EV.noC,h]
 .rename_i q i c;simp[EV.noC]at h;simp[EV.noC,h]
theorem AB.noX_ref{O:AB}(f:O.gt s=true):O.noX s none=true:=by
 rw [AB.z1];intro p;have h:=AB.yh s O f p;generalize O.get p=e at h|-;cases e<;>try rfl
 .rename_i q i;cases i with
  |none=>rfl|some i=>simp[EV.noC,bne_iff_ne];exact fun e=>h (by rw[e];rfl)
 .rename_i q i c;cases i with
  |none=>rfl|some i=>simp[EV.noC,bne_iff_ne];exact fun e=>h (by rw[e];rfl)
 .rename_i q i c;simp[EV.noC,bne_iff_ne];exact fun e=>h (by rw[e];rfl)
theorem AB.noX_nh{O:AB}(f:O.noX s k=true)(p j:Nat)(g:k=none\/k=some j)(c:NK):O.get p≠.nh s j c:=by grind[AB.z1,EV.noC]
theorem AB.Aah(d:Nat)(O:AB)(h:O.gt d=true)(s:Nat):∀i c,O.get s≠.nh d i c:=
 fun i c e=>AB.yh d O h s (by rw[e];rfl)
theorem AB.zp{O:AB}{d i:Nat}{p:Fq}(h:AB.nat ((d,e)::O) d i=some p):∃cs,e=.bx cs:=by grind[AB.x3,AB.d6]
theorem AB.yg{O:AB}{d q i:Nat}{p:Fq}(f:∀cs,e≠.bx cs)(h:AB.nat ((d,e)::O) q i=some p):d≠q/\O.nat q i=some p:=by grind[AB.zp,AB.y4,AB.d6]
theorem AB.yv{O:AB}{d q i:Nat}(h:d≠q):AB.nat ((d,e)::O) q i=O.nat q i:=by grind[AB.y4,AB.d6]
theorem AB.noX_spec{O:AB}(f:O.noX s k=true)(p j:Nat)(g:k=none\/k=some j):O.get p≠.la s (some j)/\∀c,O.get p≠.lp s (some j) c:=by grind[AB.z1,EV.noC]
def JQ(G:BH)(d:Nat)(zd:Option Nat->Option (Nat×Nat)):BH:=fun s=>if s=d then zd else G s
theorem Bs(G:BH)(d:Nat)(f:Option Nat->Option (Nat×Nat)):JQ G d f d=f:=by simp[JQ]
theorem BC(G:BH)(d s:Nat)(f:Option Nat->Option (Nat×Nat))(h:s≠d):JQ G d f s=G s:=by simp[JQ,h]
section
variable{F0:Nat->Nat->Prop}{w0:W0}{O:AB}{a:Act}{w:World}{G:BH}
theorem KD{w':World}(u:Below w.heap.size w w')(d:Nat)(l:Option Nat->Option (Nat×Nat))(x:∀i b lo,l i=some (b,lo)->w.heap.size<=b):
  BS w w' (AW w0.heap.size F0 G) (AW w0.heap.size F0 (JQ G d l)):=by
 intro b o v m hf;have j:b<w.heap.size:=World.block_lt_of_cell? w ⟨b,o,none⟩ m;refine⟨by rw[u.cell (p:=⟨b,o,none⟩) j];exact m,fun g=>hf ?_⟩;rcases g with h|⟨s,i,lo,f,y⟩
 .exact .inl h
 .by_cases r:s=d
  .subst r;rw[Bs]at f;have:=x i b lo f;omega
  .rw[BC _ _ _ _ r]at f;exact .inr ⟨s,i,lo,f,y⟩
theorem AN.zU{w':World}(h:AN F0 w0 O a w G)(f:Below w.heap.size w w'):BA w w' (x8 a G):=by
 intro g j b lo l;exact f.block b (h.lt _ _ _ _ l).1
theorem AN.quiet{w':World}(h:AN F0 w0 O a w G)(C:Below w.heap.size w w')(d:Nat)(hd:d<a.tmps.size)(e:EV)(v:Value)
  (D:Option Nat->Option (Nat×Nat))(K:∀i b lo,D i=some (b,lo)->w.heap.size<=b/\b<w'.heap.size)(L:∀i H b lo l,D i=some (b,lo)->D H=some (b,l)->i=H)
  (E:(∃cs,e=.bx cs)\/(∃n es,e=.xo n es)->O.gt d=true)
  (J:AL (a.put (some d) v) w' (AW w0.heap.size F0 (JQ G d D)) (JQ G d D) ((d,e)::O) d e v)(M:e.WF):
  AN F0 w0 ((d,e)::O) (a.put (some d) v) w' (JQ G d D):=by
 have P:=KD (F0:=F0) (w0:=w0) (G:=G) C d D (fun i b lo h=>(K i b lo h).1);refine⟨?_,?_,h.below.go C,by rw[EO];exact h.defers,?_,?_,?_⟩
 .intro s i s' H b lo l m B;by_cases g:s=d<;>by_cases y:s'=d
  .subst g;subst y;rw[Bs]at m B;exact⟨rfl,L i H b lo l m B⟩
  .subst g;rw[Bs]at m;rw[BC _ _ _ _ y]at B;have:=(K i b lo m).1;have:=(h.lt s' H b l B).1;omega
  .subst y;rw[Bs]at B;rw[BC _ _ _ _ g]at m;have:=(K H b l B).1;have:=(h.lt s i b lo m).1;omega
  .rw[BC _ _ _ _ g]at m;rw[BC _ _ _ _ y]at B;exact h.ns s i s' H b lo l m B
 .intro s i b lo m;by_cases g:s=d
  .subst g;rw[Bs]at m;have:=K i b lo m;exact⟨this.2,.inl (Nat.le_trans h.below.size this.1)⟩
  .rw[BC _ _ _ _ g]at m;have:=h.lt s i b lo m;exact⟨Nat.lt_of_lt_of_le this.1 C.size,this.2⟩
 .intro s g;rw[BT]at g;rw[AB.d6,az (by omega)];exact h.dom s g
 .intro s g;rw[BT]at g;rw[AB.d6];by_cases A:d=s
  .subst A;rw[ae rfl,CS _ _ _ hd];exact J
  .rw[az A,AY _ _ _ _ A];refine AL.kept P (fun i=>by rw[BC _ _ _ _ (fun e=>A e.symm)]) (fun i b lo R=>C.block b (h.lt s i b lo R).1) (MW (BT _ _ _) (fun s g=>BC _ _ _ _ (by omega))) (h.zU C) (fun q i k u⟨p,x⟩=>?_) (fun q N u⟨cs,r⟩=>?_) (fun q i u⟨p,x⟩=>?_) (h.slots s g)
   .by_cases f:d=q
    .subst f;exact absurd u (AB.Aah d O (E (.inl (AB.zp x))) s i k)
    .rw[AB.yv f]at x;exact⟨⟨p,x⟩,h.nh ⟨p,x⟩ (AY _ _ _ _ f) (fun j b _ I=>C.block b (h.lt _ _ _ _ I).1)⟩
   .rw[AB.d6]at r;by_cases f:d=q
    .subst f;rw[ae rfl]at r;exact absurd u (AB.zB d O (E (.inl ⟨cs,r⟩)) s N)
    .rw[az f]at r;exact⟨⟨cs,r⟩,AY _ _ _ _ f⟩
   .by_cases f:d=q
    .subst f;have Q:=AB.zJ d O (E (AB.zI x)) s;rcases u with u|⟨c,u⟩
     .exact absurd u (Q.1 i)
     .exact absurd u (Q.2 i c)
    .rw[AB.yq f]at x;exact⟨⟨p,x⟩,h.xv ⟨p,x⟩ (AY _ _ _ _ f) (fun b I=>C.block b (h.lt _ _ _ _ I).1)⟩
 .intro s;rw[AB.d6];split
  .exact M
  .exact h.wf s
theorem AN.tv{w':World}(h:AN F0 w0 O a w G)(j:Below w.heap.size w w')(d:Nat)(hd:d<a.tmps.size)(t:TV)(v:Value)
  (f:Af w' (AW w0.heap.size F0 (JQ G d fun _=>none)) t v)(g:t.WF):
  Bg F0 w0 ((d,.tv t)::O) (a.put (some d) v) w':=
 ⟨_,h.quiet j d hd (.tv t) v (fun _=>none) (by simp) (by simp) (by simp) f g⟩
theorem AN.tv_same(h:AN F0 w0 O a w G)(d:Nat)(hd:d<a.tmps.size)(t:TV)(v:Value)
  (f:Af w (AW w0.heap.size F0 G) t v)(g:t.WF):
  Bg F0 w0 ((d,.tv t)::O) (a.put (some d) v) w:=
 h.tv (Below.refl _ _) d hd t v (By (KD (Below.refl _ _) d _ (by simp)) t v f) g
theorem AN.ow{w':World}(h:AN F0 w0 O a w G)(m:Below w.heap.size w w')(d:Nat)(hd:d<a.tmps.size)(t:TV)(v:Value)(z:Option (Nat×Nat))
  (r:∀b lo,z=some (b,lo)->w.heap.size<=b/\b<w'.heap.size)
  (f:Bl w' (AW w0.heap.size F0 (JQ G d fun i=>if i=none then z else none)) z t v)(g:t.WF):
  Bg F0 w0 ((d,.ow t)::O) (a.put (some d) v) w':=by
 refine ⟨_,h.quiet m d hd (.ow t) v (fun i=>if i=none then z else none) (fun i b lo hi=>?_) (fun i x b lo u j l=>?_) (by simp) ?_ g⟩
 .split at hi
  .exact r b lo hi
  .cases hi
 .split at j
  .split at l
   .simp_all
   .cases l
  .cases j
 .simp[AL,Bs];exact f
end
section reads
variable{w:World}{F:Nat->Nat->Prop}
theorem VK(n:Nat):∀(es:Fq)(b o:Nat),(∀e∈es,e.cells.length=n)->C0 w F (es.flatMap TV.cells) b o->Hw w F n es b o
 |[],_,_,_,_=>trivial|e::es,b,o,f,h=>by
  rw [QC];have he:e.cells.length=n:=f e (by simp);rw[List.flatMap_cons]at h;refine⟨by have:=cD h e.cells.length;simpa using this,he,VK n es b (o+n) (fun x g=>f x (by simp[g])) ?_⟩;have:=PB h e.cells.length
  grind
theorem Oy(n:Nat):∀(es:Fq),(∀e∈es,e.cells.length=n)->(es.flatMap TV.cells).length=es.length*n
 |[],_=>by simp|e::es,f=>by
  rw [List.flatMap_cons,bk,Oy n es (fun x g=>f x (by simp[g])),f e (by simp),c7,Nat.add_mul,Nat.one_mul,Nat.add_comm]
variable{b o:Nat}
theorem RE{f:Fq}{xs:List Value}(h:AP w F f xs)(j:∀x∈xs,x.oneCell'=true)(l:∀(i:Nat)(x:Value),xs[i]?=some x->w.cell? ⟨b,o+i,none⟩=some x/\¬F b (o+i)):C0 w F f b o:=by
 rw [IL];rw[BQ]at h;intro i t hi;have g:i<f.length:=by
  grind
 have m:xs[i]?=some xs[i]:=List.getElem?_eq_getElem (by omega)
 grind
variable{size:Nat}{v:Value}{n:Nat}
theorem FW.cell{xs:List Value}{z:Option (Nat×Nat)}{g cap:Nat}(h:FW w size v n xs z)(hv:v=.slice (some ⟨g,0,none⟩) n cap):∀(j:Nat)(u:Value),xs[j]?=some u->w.cell? ⟨g,j,none⟩=some u:=by
 intro j u y;rcases h.2 with⟨rfl,_⟩|⟨r,m,f,e,rfl,x,_,_,_,l,_⟩
 .cases hv
 .simp only[Value.slice.injEq,tn,Addr.mk.injEq]at hv;obtain⟨⟨rfl,_⟩,_⟩:=hv;rw[cell_of_row w r j f e (0,0) x]
  grind
variable{t:TV}
theorem Bl.rep{z:Option (Nat×Nat)}(h:Bl w F z t v)(u:∀b lo o,z=some (b,lo)->o<lo->¬F b o):Af w F t v:=by
 cases t<;>simp[Bl]at h;rename_i n es;obtain⟨xs,m,A,B,C⟩:=h;simp[Af];rcases m.2 with⟨rfl,J,r⟩|⟨g,cap,D,e,rfl,K,j,E,H,l,r⟩
 .grind
 .refine⟨some ⟨g,0,none⟩,cap,rfl,j,by simp,fun I f=>?_⟩;simp at f;subst f;refine⟨.inr rfl,VK n es g 0 B (RE A C fun i x y=>?_)⟩;rw[Nat.zero_add];refine⟨m.cell rfl i x y,u g _ i r ?_⟩
  grind
variable{ρ:Hk}
theorem D1.rep{z:Option (Nat×Nat)}(h:D1 w F ρ z t v)(f:∀b lo o,z=some (b,lo)->o<lo->¬F b o):Af w F t v:=by
 cases t<;>first|exact Bl.rep h f|skip
 all_goals
  obtain ⟨xs,⟨m,j,_⟩,_⟩:=h;simp[Af];rcases j.2 with⟨rfl,_⟩|⟨g,cap,l,e,rfl,_⟩<;>rfl
end reads
end Go.Sf
