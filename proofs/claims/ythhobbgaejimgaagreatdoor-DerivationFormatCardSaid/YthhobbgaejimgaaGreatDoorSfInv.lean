/- The invariant between an environment of the pure language and a frame with memory. -/
import Derived.Test.YthhobbgaejimgaaGreatDoorSfSem
import Derived.Laws.AppendOwn
set_option linter.all false
namespace Go.Sf
open Go.RowKit (Below)
def Dq(w:World)(size:Nat)(v:Value)(n:Nat)(xs:List Value)(z:Option (Nat×Nat)):Prop:=
 xs.length=n*size/\
 ((v=.slice none 0 0/\n=0/\z=none)\/
 ∃g cap cur e,v=.slice (some ⟨g,0,none⟩) n cap/\w.heap[g]?=some (.cells cur e (0,0))/\n<=cap/\cap<=maxLen/\cur.size=cap*size/\cur.toList.take (n*size)=xs/\z=some (g,n*size))
def GA(w:World)(size:Nat)(v:Value)(n:Nat)(xs:List Value)(z:Option (Nat×Nat)):Prop:=
 ∃z0,Dq w size v n xs z0/\z=z0.map fun p=>(p.1,0)
def BE(w:World)(F:Nat->Nat->Prop)(z:Option (Nat×Nat)):TV->Value->Prop
 |.list n es,v=>∃xs,Dq w n v es.length xs z/\AI w F (es.flatMap TV.cells) xs/\(∀e∈es,e.cells.length=n)/\∀x∈xs,x.oneCell'=true|_,_=>False
abbrev E9:=Nat->Nat->Option (Nat×Nat)
def KP(w:World)(F:Nat->Nat->Prop)(z:Option (Nat×Nat))(n:Nat)(es:Fq)(v:Value):Prop:=
 ∃xs,GA w n v es.length xs z/\AI w F (es.flatMap TV.cells) xs/\(∀e∈es,e.cells.length=n)/\∀x∈xs,x.oneCell'=true
def DQ(w:World)(F:Nat->Nat->Prop)(ρ:E9)(z:Option (Nat×Nat))(es:Fq)(v:Value):Prop:=
 ∃xs,GA w 1 v es.length xs z/\(∀x∈xs,x.oneCell'=true)/\∀(j:Nat)(e:TV),es[j]?=some e->∃g x n fs,z=some (g,0)/\xs[j]?=some x/\e=.list n fs/\KP w F (ρ g j) n fs x
def C0(w:World)(F:Nat->Nat->Prop)(ρ:E9)(z:Option (Nat×Nat)):TV->Value->Prop
 |.xl n es,v=>∃xs,GA w n v es.length xs z/\AI w F (es.flatMap TV.cells) xs/\(∀e∈es,e.cells.length=n)/\∀x∈xs,x.oneCell'=true|.xn es,v=>DQ w F ρ z es v|t,v=>BE w F z t v
variable{ρ:E9}{t:TV}{v:Value}
theorem BE.c{w:World}{F:Nat->Nat->Prop}{z:Option (Nat×Nat)}(h:BE w F z t v):C0 w F ρ z t v:=by
 cases t<;>first|exact h|(simp[BE]at h)
def As(w:World)(F:Nat->Nat->Prop)(ρ:E9)(z:Option (Nat×Nat))(c:AJ)(v:Value):Prop:=
 match c with
 |⟨true,t⟩=>C0 w F ρ z t v|⟨false,t⟩=>AS w F t v/\v.oneCell'=true
abbrev Ay:=Nat->Option Nat->Option (Nat×Nat)
def rO(a:Act)(G:Ay):E9:=fun g j=>G (a.tmps.size+g) (some j)
def AN(base:Nat)(F0:Nat->Nat->Prop)(G:Ay)(b o:Nat):Prop:=(b<base/\F0 b o)\/∃s i lo,G s i=some (b,lo)/\lo<=o
def slot(a:Act)(s:Nat):Value:=a.tmps.getD s undef
def XV(a:Act)(w:World)(q:Nat)(i:Option Nat)(v:Value):Prop:=
 match i with
 |none=>v=slot a q|some k=>∃b c T,slot a q=.pointer (some ⟨b,0,none⟩)/\w.heap[b]?=some (.cells c T (0,0))/\c[k]?=some v
def NK.at(w:World)(x:Value):NK->Value->Prop
 |.hd,v=>v=x|.el j,v=>∃g len cap,x=.slice (some ⟨g,0,none⟩) len cap/\v=.pointer (some ⟨g,j,none⟩)|.rw j,v=>∃g len cap,x=.slice (some ⟨g,0,none⟩) len cap/\w.cell? ⟨g,j,none⟩=some v|.rp j p,v=>∃g len cap,x=.slice (some ⟨g,0,none⟩) len cap/\∃r len' cap',w.cell? ⟨g,j,none⟩=some (.slice (some ⟨r,0,none⟩) len' cap')/\v=.pointer (some ⟨r,p,none⟩)
def NH(a:Act)(w:World)(q i:Nat)(k:NK)(v:Value):Prop:=
 ∃b c T x,slot a q=.pointer (some ⟨b,0,none⟩)/\w.heap[b]?=some (.cells c T (0,0))/\c[i]?=some x/\k.at w x v
def C7(k:Int×Int):Value:=.agg #[.int .i64 k.1,.int .i64 k.2]
def PK(w:World)(b:Nat)(kvs:Bb):Prop:=
 ∃es clock,w.heap[b]?=some (.map es clock)/\es.toList.map (fun e=>(e.key,e.val))=kvs.map (fun p=>(C7 p.1,Value.int .i64 p.2))/\es.toList.Pairwise (fun x y=>x.born<y.born)/\∀e∈es.toList,e.born<clock
def Vt(w:World)(r b:Nat)(last:Option ((Int×Int)×Int))(todo:Bb):Prop:=
 ∃(es:Array MapEntry)(clock since c0:Nat)(seen:Array Nat),w.heap[b]?=some (.map es clock)/\w.heap[r]?=some (.mapIter (some b) since seen c0)/\es.toList.Pairwise (fun x y=>x.born<y.born)/\(∀e∈es.toList,e.born<since)/\since<=c0/\since<=clock/\
  (∀p,last=some p->∃(seen':Array Nat)(e:MapEntry),seen=seen'.push e.born/\e∈es.toList/\c0=clock/\e.key=C7 p.1/\e.val=.int .i64 p.2)/\
  ((es.toList.filter fun e=>!seen.contains e.born).map (fun e=>(e.key,e.val))).Perm (todo.map (fun p=>(C7 p.1,Value.int .i64 p.2)))
def OL(w:World)(F:Nat->Nat->Prop)(z z2:Option (Nat×Nat)):MX->Value->Prop
 |.mp b kvs,v=>v=.map (some b)/\z=some (b,0)/\PK w b kvs|.tm b kvs ts,v=>∃vs,v=.tuple (Value.map (some b)::vs).toArray/\z=some (b,0)/\PK w b kvs/\AI w F ts vs|.mi last todo,v=>∃r b,v=.pointer (some ⟨r,0,none⟩)/\z=some (r,0)/\z2=some (b,0)/\Vt w r b last todo
def AG(a:Act)(w:World)(F:Nat->Nat->Prop)(G:Ay)(O:AA)(s:Nat):EV->Value->Prop
 |.undef,_=>True|.sk,v=>v=undef|.tv t,v=>AS w F t v|.ow t,v=>BE w F (G s none) t v|.bx cs,v=>∃b c T,v=.pointer (some ⟨b,0,none⟩)/\w.heap[b]?=some (.cells c T (0,0))/\c.size=cs.length/\G s none=some (b,0)/\∀(i:Nat)(d:AJ),cs[i]?=some d->∃x,c[i]?=some x/\As w F (rO a G) (G s (some i)) d x|.bp q off,v=>(∃cs,O.get q=.bx cs)->∃b,slot a q=.pointer (some ⟨b,0,none⟩)/\v=.pointer (some ⟨b,off,none⟩)|.tp ts,v=>∃vs,v=.tuple vs/\AI w F ts vs.toList|.xo n es,v=>∃xs,GA w n v es.length xs (G s none)/\AI w F (es.flatMap TV.cells) xs/\(∀e∈es,e.cells.length=n)/\∀x∈xs,x.oneCell'=true|.sq cs,v=>∃vs,v=.agg vs/\vs.size=cs.length/\∀(i:Nat)(d:AJ),cs[i]?=some d->∃x,vs[i]?=some x/\As w F (rO a G) (G s (some i)) d x|.la q i,v=>(∃p,O.rD q i=some p)->XV a w q i v|.lp q i c,v=>(∃p,O.rD q i=some p)->∃g len cap,XV a w q i (.slice (some ⟨g,0,none⟩) len cap)/\v=.pointer (some ⟨g,c,none⟩)|.xn es,v=>DQ w F (rO a G) (G s none) es v|.x1 n fs,v=>∃g cap x,v=.slice (some ⟨g,0,none⟩) 1 cap/\1<=cap/\w.cell? ⟨g,0,none⟩=some x/\¬F g 0/\x.oneCell'=true/\KP w F (G s none) n fs x|.nh q i k,v=>(∃es,O.nat q i=some es)->NH a w q i k v|.mx m,v=>OL w F (G s none) (G s (some 0)) m v
def Rv(w:World)(E:Nat->Nat->Prop):Prop:=IU w/\∀b o,E b o->S7<=b
structure W0 extends World where
 E:Nat->Nat->Prop
theorem C0.own{w:World}{F:Nat->Nat->Prop}{z:Option (Nat×Nat)}(h:C0 w F ρ z t v)(f:t.sT=false):BE w F z t v:=by
 cases t<;>first|exact h|(simp[TV.sT]at f)
structure EY(F0:Nat->Nat->Prop)(w0:W0)(w:World):Prop where
 os:w.os=w0.os
 tape:w.tape=w0.tape
 output:w.output=w0.output
 size:w0.heap.size<=w.heap.size
 block:∀k,k<w0.heap.size->(∀o,¬w0.E k o)->w.heap[k]?=w0.heap[k]?
 cell:∀b o u,¬w0.E b o->w0.cell? ⟨b,o,none⟩=some u->w.cell? ⟨b,o,none⟩=some u
 free:∀b o o',w0.E b o->¬F0 b o'
 tab:Rv w0.toWorld w0.E
theorem EY.trans{F0:Nat->Nat->Prop}{w0:W0}{w w':World}(h:EY F0 w0 w)(j:w'.os=w.os)(l:w'.tape=w.tape)(m:w'.output=w.output)(r:w.heap.size<=w'.heap.size)(x:∀k,k<w0.heap.size->(∀o,¬w0.E k o)->w'.heap[k]?=w.heap[k]?)(y:∀b o u,b<w0.heap.size->¬w0.E b o->w.cell? ⟨b,o,none⟩=some u->w'.cell? ⟨b,o,none⟩=some u):EY F0 w0 w':=
 ⟨j.trans h.os,l.trans h.tape,m.trans h.output,Nat.le_trans h.size r,fun b f he=>(x b f he).trans (h.block b f he),fun b o u he g=>y b o u (World.block_lt_of_cell? _ ⟨b,o,none⟩ g) he (h.cell b o u he g),h.free,h.tab⟩
theorem EY.now{F0:Nat->Nat->Prop}{w0:W0}{w:World}(h:EY F0 w0 w):IU w:=
 h.tab.1.pr fun b f=>h.block b (Nat.lt_of_lt_of_le f h.tab.1.lt) fun o e=>absurd (h.tab.2 b o e) (by omega)
theorem EY.but{F0:Nat->Nat->Prop}{w0:W0}{w w':World}(h:EY F0 w0 w)(f:w'.os=w.os)(g:w'.tape=w.tape)(j:w'.output=w.output)(l:w.heap.size<=w'.heap.size){Z:Nat->Prop}(m:∀b,Z b->w0.heap.size<=b\/∀o,w0.E b o)(r:∀k,k<w0.heap.size->¬Z k->w'.heap[k]?=w.heap[k]?):EY F0 w0 w':=
 h.trans f g j l (fun k x he=>r k x fun z=>(m k z).elim (fun e=>by omega) (fun e=>he 0 (e 0))) (fun b o u y he A=>by
  grind [World.cell?_of_block])
theorem EY.go{F0:Nat->Nat->Prop}{w0:W0}{w w':World}(h:EY F0 w0 w)(k:Below w.heap.size w w'):EY F0 w0 w':=
 h.trans k.os k.tape k.output k.size (fun b f _=>k.block b (Nat.lt_of_lt_of_le f h.size)) (fun b o u f _ g=>by rw[k.cell (p:=⟨b,o,none⟩) (Nat.lt_of_lt_of_le f h.size)];exact g)
structure AK(F0:Nat->Nat->Prop)(w0:W0)(O:AA)(a:Act)(w:World)(G:Ay):Prop where
 q8:∀s i s' i' b lo lo',G s i=some (b,lo)->G s' i'=some (b,lo')->s=s'/\i=i'
 lt:∀s i b lo,G s i=some (b,lo)->b<w.heap.size/\(w0.heap.size<=b\/∀o,lo<=o->w0.E b o)
 below:EY F0 w0 w
 defers:a.defers=[]
 dom:∀s,a.tmps.size<=s->O.get s=.undef
 slots:∀s,s<a.tmps.size->AG a w (AN w0.heap.size F0 G) G O s (O.get s) (slot a s)
 wf:∀s,(O.get s).WF
variable{s:Nat}{i:Option Nat}
theorem AK.low{F0:Nat->Nat->Prop}{w0:W0}{O:AA}{a:Act}{w:World}{G:Ay}(h:AK F0 w0 O a w G){b lo:Nat}(e:G s i=some (b,lo)):S7<=b:=
 (h.lt _ _ _ _ e).2.elim (fun k=>Nat.le_trans h.below.tab.1.lt k) fun k=>h.below.tab.2 b lo (k lo (ca _))
def BG(F0:Nat->Nat->Prop)(w0:W0)(O:AA)(a:Act)(w:World):Prop:=∃G,AK F0 w0 O a w G
theorem AA.hV(k:Nat)(e:EV)(O:AA)(n:Nat):AA.get ((k,e)::O) n=if k=n then e else O.get n:=rfl
theorem AA.get_map_keep(O:AA):∀(live:Ne)(n:Nat),AA.get (live.map fun s=>(s,O.get s)) n=if n∈live then O.get n else .undef
 |[],n=>by simp[AA.get]|s::live,n=>by
  simp [AA.get,AA.get_map_keep O live n]
  grind
theorem AA.sM(O:AA)(live:Ne)(n:Nat):(O.pr live).get n=if n∈live then O.get n else .undef:=AA.get_map_keep O live n
variable{q:Nat}
theorem AA.su{O env':AA}(h:env'.get q=O.get q):env'.rD q i=O.rD q i:=by
 cases i<;>simp[AA.rD,h]
theorem AA.sY{O:AA}(h:O.get q=.undef):O.rD q i=none:=by
 cases i<;>simp[AA.rD,h]
variable{live:Ne}
theorem AA.xat_keep{O:AA}(h:∃p,(O.pr live).rD q i=some p):∃p,O.rD q i=some p:=by grind[AA.su,AA.sM,AA.sY]
variable{n:Nat}
theorem AA.ry{O:AA}{q k:Nat}{es:Fq}(h:O.rD q (some k)=some (n,es)):∃cs,O.get q=.bx cs/\cs[k]?=some ⟨true,.xl n es⟩:=by grind[AA.rD,rC]
theorem AA.rN{O:AA}{es:Fq}(h:O.rD q none=some (n,es)):O.get q=.xo n es:=by grind[AA.rD,rC]
theorem AA.sH{O env':AA}{i:Nat}(h:env'.get q=O.get q):env'.nat q i=O.nat q i:=by
 simp [AA.nat,h]
theorem AA.nat_undef{O:AA}{i:Nat}(h:O.get q=.undef):O.nat q i=none:=by
 simp [AA.nat,h]
theorem AA.nat_keep{O:AA}{i:Nat}(h:∃p,(O.pr live).nat q i=some p):∃p,O.nat q i=some p:=by grind[AA.sH,AA.sM,AA.nat_undef]
theorem AA.rF{O:AA}{q k:Nat}{es:Fq}(h:O.nat q k=some es):∃cs,O.get q=.bx cs/\cs[k]?=some ⟨true,.xn es⟩:=by grind[AA.nat,rC]
variable{b o:Nat}
theorem AN.mono{base:Nat}{F0:Nat->Nat->Prop}{G j:Ay}(h:∀s i b lo,j s i=some (b,lo)->∃s' g f,G s' g=some (b,f)/\f<=lo)(hf:AN base F0 j b o):AN base F0 G b o:=by
 rcases hf with hf|⟨s,i,lo,r,u⟩
 .exact .inl hf
 .obtain⟨s',g,f,l,m⟩:=h s i b lo r;exact .inr ⟨s',g,f,l,Nat.le_trans m u⟩
theorem BG.pr{F0:Nat->Nat->Prop}{w0:W0}{O:AA}{a:Act}{w:World}(h:BG F0 w0 O a w)(live:Ne):BG F0 w0 (O.pr live) a w:=by
 obtain ⟨G,g⟩:=h;refine⟨G,g.q8,g.lt,g.below,g.defers,fun s l=>?_,fun s l=>?_,fun s=>?_⟩
 .rw[AA.sM,g.dom s l];split<;>rfl
 .have:=g.slots s l;rw[AA.sM];split
  .cases he:O.get s with
   |bp q r=>
    rw [he]at this;simp only[AG]at this|-;rintro⟨cs,f⟩;rw[AA.sM]at f;split at f
    .exact this ⟨cs,f⟩
    .cases f
   |undef=>trivial|sk=>rw[he]at this;exact this|tv t=>rw[he]at this;exact this|ow t=>rw[he]at this;exact this|bx cs=>rw[he]at this;exact this|tp u=>rw[he]at this;exact this|xo n es=>rw[he]at this;exact this|sq cs=>rw[he]at this;exact this|xn es=>rw[he]at this;exact this|x1 n x=>rw[he]at this;exact this|mx m=>rw[he]at this;exact this|nh q i k=>
    rw [he]at this;simp only[AG]at this|-;exact fun j=>this (AA.nat_keep j)
   |la q i=>
    rw [he]at this;simp only[AG]at this|-;exact fun j=>this (AA.xat_keep j)
   |lp q i c=>
    rw [he]at this;simp only[AG]at this|-;exact fun j=>this (AA.xat_keep j)
  .trivial
 .rw[AA.sM];split
  .exact g.wf s
  .trivial
section own
variable{w w':World}{F F':Nat->Nat->Prop}{z:Option (Nat×Nat)}
variable{size:Nat}{v:Value}{n:Nat}
theorem Dq.kept{xs:List Value}(h:Dq w size v n xs z)(l:∀b lo,z=some (b,lo)->w'.heap[b]?=w.heap[b]?):Dq w' size v n xs z:=by
 refine ⟨h.1,?_⟩;rcases h.2 with f|⟨g,cap,j,e,m,r,u,x,y,A,B⟩
 .exact .inl f
 grind
theorem GA.kept{xs:List Value}(h:GA w size v n xs z)(g:∀b lo,z=some (b,lo)->w'.heap[b]?=w.heap[b]?):GA w' size v n xs z:=by
 obtain ⟨l,m,f⟩:=h;exact⟨l,m.kept (fun b lo j=>g b 0 (by rw[f,j];rfl)),f⟩
variable{t:TV}
theorem BE.kept(f:A3 w w' F F')(h:BE w F z t v)(g:∀b lo,z=some (b,lo)->w'.heap[b]?=w.heap[b]?):BE w' F' z t v:=by
 cases t<;>simp[BE]at h|-;obtain⟨xs,j,l,m⟩:=h;exact⟨xs,j.kept g,AX f _ _ l,m⟩
theorem KP.kept{es:Fq}(f:A3 w w' F F')(h:KP w F z n es v)(g:∀b lo,z=some (b,lo)->w'.heap[b]?=w.heap[b]?):KP w' F' z n es v:=by
 obtain ⟨xs,j,l,m⟩:=h;exact⟨xs,j.kept g,AX f _ _ l,m⟩
def Au(w w':World)(ρ:E9):Prop:=∀g j b lo,ρ g j=some (b,lo)->w'.heap[b]?=w.heap[b]?
variable{ρ:E9}
theorem Au.rfl'{w:World}:Au w w ρ:=fun _ _ _ _ _=>rfl
theorem DQ.kept{es:Fq}(f:A3 w w' F F')(h:DQ w F ρ z es v)(l:∀b lo,z=some (b,lo)->w'.heap[b]?=w.heap[b]?)(m:Au w w' ρ):DQ w' F' ρ z es v:=by
 obtain ⟨xs,y,A,B⟩:=h;refine⟨xs,y.kept l,A,fun j e r=>?_⟩;obtain⟨g,x,n,C,D,E,H,I⟩:=B j e r;exact⟨g,x,n,C,D,E,H,I.kept f (fun b lo u=>m g j b lo u)⟩
def PN(w w':World)(ρ:E9)(z:Option (Nat×Nat)):Prop:=∀g lo j b lo',z=some (g,lo)->ρ g j=some (b,lo')->w'.heap[b]?=w.heap[b]?
theorem Au.spot{w w':World}{z:Option (Nat×Nat)}(h:Au w w' ρ):PN w w' ρ z:=fun g _ j b f _ l=>h g j b f l
theorem DQ.ua{es:Fq}(l:A3 w w' F F')(h:DQ w F ρ z es v)(m:∀b lo,z=some (b,lo)->w'.heap[b]?=w.heap[b]?)(r:PN w w' ρ z):DQ w' F' ρ z es v:=by
 obtain ⟨xs,A,B,C⟩:=h;refine⟨xs,A.kept m,B,fun j e u=>?_⟩;obtain⟨g,x,n,D,f,E,H,I⟩:=C j e u;exact⟨g,x,n,D,f,E,H,I.kept l (fun b lo y=>r g 0 j b lo f y)⟩
variable{ρ':E9}
theorem DQ.rO{es:Fq}(h:DQ w F ρ z es v)(m:∀g lo j,z=some (g,lo)->ρ' g j=ρ g j):DQ w F ρ' z es v:=by
 obtain ⟨xs,f,l,u⟩:=h;refine⟨xs,f,l,fun j e r=>?_⟩
 grind
variable{c:AJ}
theorem As.rO(h:As w F ρ z c v)(f:∀g lo j,z=some (g,lo)->ρ' g j=ρ g j):As w F ρ' z c v:=by
 obtain ⟨_|_,t⟩:=c
 .exact h
 .cases t<;>first|exact h|exact DQ.rO h f
theorem C0.kept(f:A3 w w' F F')(h:C0 w F ρ z t v)(g:∀b lo,z=some (b,lo)->w'.heap[b]?=w.heap[b]?)(j:Au w w' ρ):C0 w' F' ρ z t v:=by
 cases t<;>simp[C0]at h|- <;>first|exact BE.kept f h g|exact DQ.kept f h g j|skip
 obtain ⟨xs,l,m,r⟩:=h;exact⟨xs,l.kept g,AX f _ _ m,r⟩
theorem As.kept(f:A3 w w' F F')(h:As w F ρ z c v)(g:∀b lo,z=some (b,lo)->w'.heap[b]?=w.heap[b]?)(j:Au w w' ρ):As w' F' ρ z c v:=by
 obtain ⟨_|_,t⟩:=c
 .exact⟨BP f _ _ h.1,h.2⟩
 .exact C0.kept f h g j
theorem As.ua(f:A3 w w' F F')(h:As w F ρ z c v)(g:∀b lo,z=some (b,lo)->w'.heap[b]?=w.heap[b]?)(j:PN w w' ρ z):As w' F' ρ z c v:=by
 obtain ⟨_|_,t⟩:=c
 .exact⟨BP f _ _ h.1,h.2⟩
 .replace h:C0 w F ρ z t v:=h;show C0 w' F' ρ z t v;cases t<;>simp[C0]at h|- <;>first|exact BE.kept f h g|exact DQ.ua f h g j|skip
  obtain ⟨xs,l,m,r⟩:=h;exact⟨xs,l.kept g,AX f _ _ m,r⟩
end own
variable{v:Value}
theorem OL.kept{w w':World}{F F':Nat->Nat->Prop}{z z2:Option (Nat×Nat)}{m:MX}(B:A3 w w' F F')(h:OL w F z z2 m v)(l:∀b lo,z=some (b,lo)->w'.heap[b]?=w.heap[b]?)(u:∀b lo,z2=some (b,lo)->w'.heap[b]?=w.heap[b]?):OL w' F' z z2 m v:=by
 cases m with
 |mp b y=>
  obtain ⟨j,f,g⟩:=h;exact⟨j,f,by unfold PK;rw[l _ _ f];exact g⟩
 |tm b y C=>
  obtain ⟨vs,j,f,g,x⟩:=h;exact⟨vs,j,f,by unfold PK;rw[l _ _ f];exact g,AX B _ _ x⟩
 |mi last A=>
  obtain ⟨r,b,j,f,g,x⟩:=h;exact⟨r,b,j,f,g,by unfold Vt;rw[l _ _ f,u _ _ g];exact x⟩
variable{s:Nat}{e:EV}
theorem AG.kept'{a a':Act}{w w':World}{F F':Nat->Nat->Prop}{G L:Ay}{O env':AA}
  (r:A3 w w' F F')(u:∀i,L s i=G s i)(y:∀i b lo,G s i=some (b,lo)->w'.heap[b]?=w.heap[b]?)
  (M:∀i g lo j,G s i=some (g,lo)->rO a' L g j=rO a G g j)(N:∀i,PN w w' (rO a G) (G s i))
  (P:∀q i k,e=.nh q i k->(∃p,env'.nat q i=some p)->(∃p,O.nat q i=some p)/\∀v,NH a w q i k v->NH a' w' q i k v)
  (Q:∀q B,e=.bp q B->(∃cs,env'.get q=.bx cs)->(∃cs,O.get q=.bx cs)/\slot a' q=slot a q)
  (H:∀q i,(e=.la q i\/∃c,e=.lp q i c)->(∃p,env'.rD q i=some p)->(∃p,O.rD q i=some p)/\∀v,XV a w q i v->XV a' w' q i v)
  (h:AG a w F G O s e v):AG a' w' F' L env' s e v:=by
 cases e with
 |undef=>trivial|sk=>exact h|tv t=>exact BP r t v h|ow t=>
  simp [AG]at h|-;rw[u];exact h.kept r (fun b lo=>y _ b lo)
 |bx cs=>
  simp only[AG]at h|-;obtain⟨b,c,T,f,A,D,K,J⟩:=h;refine⟨b,c,T,f,by rw[y _ _ _ K];exact A,D,by rw[u];exact K,fun i d hd=>?_⟩;obtain⟨x,R,l⟩:=J i d hd;exact⟨x,R,by rw[u];exact(l.ua r (fun b lo=>y _ b lo) (N _)).rO (fun g lo j I=>M _ g lo j I)⟩
 |bp q B=>
  simp only[AG]at h|-;intro C;obtain⟨l,E⟩:=Q q B rfl C;rw[E];exact h l
 |tp U=>
  simp [AG]at h|-;obtain⟨vs,f,A⟩:=h;exact⟨vs,f,AX r _ _ A⟩
 |xo n es=>
  simp [AG]at h|-;obtain⟨xs,f,A,D⟩:=h;rw[u];exact⟨xs,f.kept (fun b lo=>y _ b lo),AX r _ _ A,D⟩
 |sq cs=>
  simp [AG]at h|-;obtain⟨vs,f,D,J⟩:=h;refine⟨vs,f,D,fun i d hd=>?_⟩;obtain⟨x,R,l⟩:=J i d hd;exact⟨x,R,by rw[u];exact(l.ua r (fun b lo=>y _ b lo) (N _)).rO (fun g lo j I=>M _ g lo j I)⟩
 |xn es=>
  simp [AG]at h|-;rw[u];exact(h.ua r (fun b lo=>y _ b lo) (N _)).rO (fun g lo j I=>M _ g lo j I)
 |x1 n V=>
  simp only[AG]at h|-;obtain⟨g,cap,x,f,A,D,K,J,S⟩:=h;rw[u];have:=r g 0 x D K;exact⟨g,cap,x,f,A,this.1,this.2,J,S.kept r (fun b lo=>y _ b lo)⟩
 |mx m=>
  simp [AG]at h|-;rw[u,u];exact h.kept r (fun b lo=>y _ b lo) (fun b lo=>y _ b lo)
 |nh q i k=>
  simp only[AG]at h|-;intro C;obtain⟨l,E⟩:=P q i k rfl C;exact E _ (h l)
 |la q i=>
  simp only[AG]at h|-;intro C;obtain⟨l,E⟩:=H q i (.inl rfl) C;exact E _ (h l)
 |lp q i c=>
  simp only[AG]at h|-;intro C;obtain⟨l,E⟩:=H q i (.inr ⟨c,rfl⟩) C;obtain⟨g,len,cap,f,A⟩:=h l;exact⟨g,len,cap,E _ f,A⟩
theorem AG.kept{a a':Act}{w w':World}{F F':Nat->Nat->Prop}{G f:Ay}{O env':AA}
  (x:A3 w w' F F')(y:∀i,f s i=G s i)(A:∀i b lo,G s i=some (b,lo)->w'.heap[b]?=w.heap[b]?)
  (B:rO a' f=rO a G)(C:Au w w' (rO a G))
  (l:∀q i k,e=.nh q i k->(∃p,env'.nat q i=some p)->(∃p,O.nat q i=some p)/\∀v,NH a w q i k v->NH a' w' q i k v)
  (m:∀q u,e=.bp q u->(∃cs,env'.get q=.bx cs)->(∃cs,O.get q=.bx cs)/\slot a' q=slot a q)
  (r:∀q i,(e=.la q i\/∃c,e=.lp q i c)->(∃p,env'.rD q i=some p)->(∃p,O.rD q i=some p)/\∀v,XV a w q i v->XV a' w' q i v)
  (h:AG a w F G O s e v):AG a' w' F' f env' s e v:=
 AG.kept' x y A (fun _ g _ j _=>by rw[B]) (fun _=>Au.spot C) l m r h
variable{q:Nat}{i:Option Nat}
theorem AK.xv{F0:Nat->Nat->Prop}{w0:W0}{O:AA}{a a':Act}{w w':World}{G:Ay}(h:AK F0 w0 O a w G)(x:∃p,O.rD q i=some p)(m:slot a' q=slot a q)(y:∀b,G q none=some (b,0)->w'.heap[b]?=w.heap[b]?):∀v,XV a w q i v->XV a' w' q i v:=by
 intro v hv;cases i with
 |none=>exact hv.trans m.symm|some k=>
  obtain ⟨⟨n,es⟩,A⟩:=x;obtain⟨cs,g,_⟩:=AA.ry A;obtain⟨b,c,T,u,B,C⟩:=hv;have f:q<a.tmps.size:=by
   rcases Nat.lt_or_ge q a.tmps.size with l|l
   .exact l
   .rw[h.dom q l]at g;cases g
  have r:=h.slots q f;rw[g]at r;obtain⟨E,c',H,j,I,_,D,_⟩:=r;rw[u]at j;simp at j;subst j;exact⟨b,c,T,by rw[m,u],by rw[y b D];exact B,C⟩
theorem NK.at.kept{w w':World}{x:Value}{k:NK}(h:k.at w x v)(u:∀g len cap,x=.slice (some ⟨g,0,none⟩) len cap->w'.heap[g]?=w.heap[g]?):k.at w' x v:=by
 have m:∀g len cap,x=.slice (some ⟨g,0,none⟩) len cap->∀j,w'.cell? ⟨g,j,none⟩=w.cell? ⟨g,j,none⟩:=fun g len cap e j=>World.cell?_of_block (w:=w) (w':=w') (a:=⟨g,j,none⟩) (u g len cap e);cases k with
 |hd=>exact h|el j=>exact h|rw j=>obtain⟨g,len,cap,e,h⟩:=h;exact⟨g,len,cap,e,by rw[m _ _ _ e];exact h⟩
 |rp j p=>obtain⟨g,len,cap,e,r,f,l,h,y⟩:=h;exact⟨g,len,cap,e,r,f,l,by rw[m _ _ _ e];exact h,y⟩
theorem NH.kept{a a':Act}{w w':World}{q i:Nat}{k:NK}(h:NH a w q i k v)(m:slot a' q=slot a q)(r:∀b,slot a q=.pointer (some ⟨b,0,none⟩)->w'.heap[b]?=w.heap[b]?)
  (u:∀b c T g len cap,slot a q=.pointer (some ⟨b,0,none⟩)->w.heap[b]?=some (.cells c T (0,0))->c[i]?=some (.slice (some ⟨g,0,none⟩) len cap)->w'.heap[g]?=w.heap[g]?):NH a' w' q i k v:=by
 obtain ⟨b,c,T,x,f,j,l,y⟩:=h;exact⟨b,c,T,x,by rw[m];exact f,by rw[r b f];exact j,l,y.kept fun g len cap e=>u b c T g len cap f j (by rw[l,e])⟩
variable{ρ:E9}
theorem DQ.nil_or{w:World}{F:Nat->Nat->Prop}{z:Option (Nat×Nat)}{es:Fq}{g len cap:Nat}(h:DQ w F ρ z es (.slice (some ⟨g,0,none⟩) len cap)):z=some (g,0):=by
 obtain ⟨xs,⟨m,j,r⟩,_⟩:=h;rcases j.2 with⟨e,_⟩|⟨u,f,l,e,x,_,_,_,_,_,y⟩
 .cases e
 grind
theorem AK.lts{F0:Nat->Nat->Prop}{w0:W0}{O:AA}{a:Act}{w:World}{G:Ay}(h:AK F0 w0 O a w G)(g:O.get q≠.undef):q<a.tmps.size:=by
 rcases Nat.lt_or_ge q a.tmps.size with f|f
 .exact f
 .exact absurd (h.dom q f) g
theorem AK.nh{F0:Nat->Nat->Prop}{w0:W0}{O:AA}{a a':Act}{w w':World}{G:Ay}(h:AK F0 w0 O a w G){q i:Nat}{k:NK}(y:∃p,O.nat q i=some p)(A:slot a' q=slot a q)(B:∀j b,(j=none\/j=some i)->G q j=some (b,0)->w'.heap[b]?=w.heap[b]?):∀v,NH a w q i k v->NH a' w' q i k v:=by
 intro v hv;obtain⟨es,H⟩:=y;obtain⟨cs,r,I⟩:=AA.rF H;have m:=h.slots q (h.lts (by rw[r];simp));rw[r]at m;obtain⟨L,c',M,f,u,_,N,J⟩:=m;refine hv.kept A (fun b C=>?_) (fun b c T g len cap D E k3=>?_)
 .grind
 .rw[D]at f;simp at f;subst f;rw[E]at u;cases u;obtain⟨x,l,K⟩:=J i _ I;rw[k3]at l;simp at l;subst l;exact B (some i) g (.inr rfl) (DQ.nil_or K)
theorem AK.uC{F0:Nat->Nat->Prop}{w0:W0}{O:AA}{a:Act}{w:World}{G:Ay}(h:AK F0 w0 O a w G)(u:s<a.tmps.size){b lo g j l f:Nat}(m:G s i=some (b,lo))(r:rO a G g j=some (l,f)):l≠b:=by
 rintro rfl;have:=(h.q8 _ _ _ _ _ _ _ m r).1;omega
theorem Hy{a a':Act}{G f:Ay}(g:a'.tmps.size=a.tmps.size)(h:∀s,a.tmps.size<=s->f s=G s):rO a' f=rO a G:=by grind[rO]
theorem Bu(a:Act)(d:Nat)(v:Value)(h:d<a.tmps.size):slot (a.put (some d) v) d=v:=by
 simp [slot,Act.put,Array.getD_eq_getD_getElem?,h]
theorem AO(a:Act)(d s:Nat)(v:Value)(h:d≠s):slot (a.put (some d) v) s=slot a s:=by
 simp [slot,Act.put,Array.getD_eq_getD_getElem?,Array.getElem?_setIfInBounds,h]
theorem A4(a:Act)(d:Option Nat)(v:Value):(a.put d v).tmps.size=a.tmps.size:=by
 cases d<;>simp[Act.put]
theorem DC(a:Act)(d:Option Nat)(v:Value):(a.put d v).defers=a.defers:=by
 cases d<;>simp[Act.put]
def KN(a:Act)(d:Nat)(a':Act):Prop:=∃v,a'=a.put (some d) v
structure Hj(N:Nat)(p:Option (Nat×Value))(a:Act):Prop where
 size:a.tmps.size=N
 pin:∀i v,p=some (i,v)->slot a i=v
variable{d:Nat}
theorem Hj.put{N:Nat}{p:Option (Nat×Value)}{a a':Act}(h:Hj N p a)(hd:∀i v,p=some (i,v)->some d≠some i)(k:KN a d a'):Hj N p a':=by
 obtain ⟨v,rfl⟩:=k;exact⟨by rw[A4];exact h.size,fun i u f=>by rw[AO _ _ _ _ (fun e=>hd i u f (by rw[e]))];exact h.pin i u f⟩
theorem J0(w:World)(F:Nat->Nat->Prop):A3 w w F F:=fun _ _ _ f g=>⟨f,g⟩
variable{t:TV}
theorem AK.rem{F0:Nat->Nat->Prop}{w0:W0}{O env':AA}{a:Act}{w:World}{G:Ay}(h:AK F0 w0 O a w G)(s:Nat)(A:s<a.tmps.size)(m:AS w (AN w0.heap.size F0 G) t (slot a s))(x:t.WF)
  (l:∀n,env'.get n=O.get n\/(n=s/\env'.get n=.tv t)):AK F0 w0 env' a w G:=by
 refine ⟨h.q8,h.lt,h.below,h.defers,fun q u=>?_,fun q u=>?_,fun q=>?_⟩
 .rcases l q with e|⟨rfl,_⟩
  .rw[e];exact h.dom q u
  .omega
 .rcases l q with e|⟨rfl,e⟩
  .rw[e];refine AG.kept (J0 _ _) (fun _=>rfl) (fun _ _ _ _=>rfl) rfl Au.rfl' (fun r i k m⟨p,g⟩=>?_) (fun r y m⟨cs,j⟩=>?_) (fun r i m⟨p,g⟩=>?_) (h.slots q u)
   .rcases l r with f|⟨_,f⟩
    .rw[AA.sH f]at g;exact⟨⟨p,g⟩,fun _ hv=>hv⟩
    .simp only[AA.nat,f]at g;cases g
   .rcases l r with f|⟨_,f⟩
    .rw[f]at j;exact⟨⟨cs,j⟩,rfl⟩
    .rw[f]at j;cases j
   .rcases l r with f|⟨_,f⟩
    .rw[AA.su f]at g;exact⟨⟨p,g⟩,fun _ hv=>hv⟩
    .cases i<;>simp[AA.rD,f]at g<;>cases g
  .rw[e];exact m
 .rcases l q with e|⟨_,e⟩
  .rw[e];exact h.wf q
  .rw[e];exact x
end Go.Sf
namespace Go.Sf
open Go.RowKit (Below)
theorem AA.rY(d:Nat):∀(O:AA),O.l3 d=true->∀s,(O.get s).rS≠some d
 |[],_,s=>by simp[AA.get,EV.rS]|(k,e)::r,f,s=>by
  simp [AA.l3]at f;rw[AA.hV];split
  .grind[EV.sz]
  .exact AA.rY d r f.2 s
theorem AA.tj(d:Nat)(O:AA)(h:O.l3 d=true)(s:Nat):(∀i,O.get s≠.la d i)/\∀i c,O.get s≠.lp d i c:=
 ⟨fun i e=>AA.rY d O h s (by rw[e];rfl),fun i c e=>AA.rY d O h s (by rw[e];rfl)⟩
theorem AA.td(d:Nat)(O:AA)(h:O.l3 d=true)(s f:Nat):O.get s≠.bp d f:=
 fun e=>AA.rY d O h s (by rw[e];rfl)
variable{d:Nat}{e:EV}{i:Option Nat}{p:Nat×Fq}
theorem AA.th{O:AA}(h:AA.rD ((d,e)::O) d i=some p):(∃cs,e=.bx cs)\/(∃n es,e=.xo n es):=by
 obtain ⟨n,es⟩:=p;cases i with
 |none=>have:=AA.rN h;rw[AA.hV,az rfl]at this;exact .inr ⟨n,es,this⟩|some k=>obtain⟨cs,f,_⟩:=AA.ry h;rw[AA.hV,az rfl]at f;exact .inl ⟨cs,f⟩
variable{q:Nat}
theorem AA.rH{O:AA}(f:∀cs,e≠.bx cs)(g:∀n es,e≠.xo n es)(h:AA.rD ((d,e)::O) q i=some p):d≠q/\O.rD q i=some p:=by grind[AA.th,AA.su,AA.hV]
theorem AA.sd{O:AA}(h:d≠q):AA.rD ((d,e)::O) q i=O.rD q i:=by grind[AA.su,AA.hV]
variable{s:Nat}{k:Option Nat}
theorem AA.noXs_iff:∀{O:AA}{z:Ne},AA.uT s k z O=true↔∀p,p∉z->(O.get p).uA s k=true
 |[],z=>by simp[AA.uT,AA.get,EV.uA]|(q,e)::r,z=>by
  simp [AA.uT,sN,AA.noXs_iff (O:=r)]
  grind [AA.hV]
theorem AA.tL{O:AA}:O.tC s k=true↔∀p,(O.get p).uA s k=true:=
 AA.noXs_iff.trans ⟨fun h p=>h p (by simp),fun h p _=>h p⟩
theorem AA.noX_all{s k:Nat}{O:AA}(f:O.tC s none=true):O.tC s (some k)=true:=by
 rw [AA.tL]at f|-;intro p;have h:=f p;generalize O.get p=e at h|-;cases e<;>try rfl
 .rename_i q i;cases i with
  |none=>rfl|some i=>simp[EV.uA]at h;simp[EV.uA,h]
 .rename_i q i c;cases i with
  |none=>rfl|some i=>simp[EV.uA]at h;simp[EV.uA,h]
 .rename_i q i c;simp[EV.uA]at h;simp[EV.uA,h]
theorem AA.noX_ref{O:AA}(f:O.l3 s=true):O.tC s none=true:=by
 rw [AA.tL];intro p;have h:=AA.rY s O f p;generalize O.get p=e at h|-;cases e<;>try rfl
 .rename_i q i;cases i with
  |none=>rfl|some i=>simp[EV.uA,bne_iff_ne];exact fun e=>h (by rw[e];rfl)
 .rename_i q i c;cases i with
  |none=>rfl|some i=>simp[EV.uA,bne_iff_ne];exact fun e=>h (by rw[e];rfl)
 .rename_i q i c;simp[EV.uA,bne_iff_ne];exact fun e=>h (by rw[e];rfl)
theorem AA.noX_nh{O:AA}(f:O.tC s k=true)(p j:Nat)(g:k=none\/k=some j)(c:NK):O.get p≠.nh s j c:=by grind[AA.tL,EV.uA]
theorem AA.tN(d:Nat)(O:AA)(h:O.l3 d=true)(s:Nat):∀i c,O.get s≠.nh d i c:=
 fun i c e=>AA.rY d O h s (by rw[e];rfl)
theorem AA.sU{O:AA}{d i:Nat}{p:Fq}(h:AA.nat ((d,e)::O) d i=some p):∃cs,e=.bx cs:=by grind[AA.rF,AA.hV]
theorem AA.rW{O:AA}{d q i:Nat}{p:Fq}(f:∀cs,e≠.bx cs)(h:AA.nat ((d,e)::O) q i=some p):d≠q/\O.nat q i=some p:=by grind[AA.sU,AA.sH,AA.hV]
theorem AA.si{O:AA}{d q i:Nat}(h:d≠q):AA.nat ((d,e)::O) q i=O.nat q i:=by grind[AA.sH,AA.hV]
theorem AA.noX_spec{O:AA}(f:O.tC s k=true)(p j:Nat)(g:k=none\/k=some j):O.get p≠.la s (some j)/\∀c,O.get p≠.lp s (some j) c:=by grind[AA.tL,EV.uA]
def F5(G:Ay)(d:Nat)(zd:Option Nat->Option (Nat×Nat)):Ay:=fun s=>if s=d then zd else G s
theorem BN(G:Ay)(d:Nat)(f:Option Nat->Option (Nat×Nat)):F5 G d f d=f:=by simp[F5]
theorem At(G:Ay)(d s:Nat)(f:Option Nat->Option (Nat×Nat))(h:s≠d):F5 G d f s=G s:=by simp[F5,h]
section
variable{F0:Nat->Nat->Prop}{w0:W0}{O:AA}{a:Act}{w:World}{G:Ay}
theorem Gg{w':World}(u:Below w.heap.size w w')(d:Nat)(l:Option Nat->Option (Nat×Nat))(x:∀i b lo,l i=some (b,lo)->w.heap.size<=b):
  A3 w w' (AN w0.heap.size F0 G) (AN w0.heap.size F0 (F5 G d l)):=by
 intro b o v m hf;have j:b<w.heap.size:=World.block_lt_of_cell? w ⟨b,o,none⟩ m;refine⟨by rw[u.cell (p:=⟨b,o,none⟩) j];exact m,fun g=>hf ?_⟩;rcases g with h|⟨s,i,lo,f,y⟩
 .exact .inl h
 .by_cases r:s=d
  .subst r;rw[BN]at f;have:=x i b lo f;omega
  .rw[At _ _ _ _ r]at f;exact .inr ⟨s,i,lo,f,y⟩
theorem AK.tA{w':World}(h:AK F0 w0 O a w G)(f:Below w.heap.size w w'):Au w w' (rO a G):=by
 intro g j b lo l;exact f.block b (h.lt _ _ _ _ l).1
theorem AK.quiet{w':World}(h:AK F0 w0 O a w G)(C:Below w.heap.size w w')(d:Nat)(hd:d<a.tmps.size)(e:EV)(v:Value)
  (D:Option Nat->Option (Nat×Nat))(K:∀i b lo,D i=some (b,lo)->w.heap.size<=b/\b<w'.heap.size)(L:∀i H b lo l,D i=some (b,lo)->D H=some (b,l)->i=H)
  (E:(∃cs,e=.bx cs)\/(∃n es,e=.xo n es)->O.l3 d=true)
  (J:AG (a.put (some d) v) w' (AN w0.heap.size F0 (F5 G d D)) (F5 G d D) ((d,e)::O) d e v)(M:e.WF):
  AK F0 w0 ((d,e)::O) (a.put (some d) v) w' (F5 G d D):=by
 have P:=Gg (F0:=F0) (w0:=w0) (G:=G) C d D (fun i b lo h=>(K i b lo h).1);refine⟨?_,?_,h.below.go C,by rw[DC];exact h.defers,?_,?_,?_⟩
 .intro s i s' H b lo l m B;by_cases g:s=d<;>by_cases y:s'=d
  .subst g;subst y;rw[BN]at m B;exact⟨rfl,L i H b lo l m B⟩
  .subst g;rw[BN]at m;rw[At _ _ _ _ y]at B;have:=(K i b lo m).1;have:=(h.lt s' H b l B).1;omega
  .subst y;rw[BN]at B;rw[At _ _ _ _ g]at m;have:=(K H b l B).1;have:=(h.lt s i b lo m).1;omega
  .rw[At _ _ _ _ g]at m;rw[At _ _ _ _ y]at B;exact h.q8 s i s' H b lo l m B
 .intro s i b lo m;by_cases g:s=d
  .subst g;rw[BN]at m;have:=K i b lo m;exact⟨this.2,.inl (Nat.le_trans h.below.size this.1)⟩
  .rw[At _ _ _ _ g]at m;have:=h.lt s i b lo m;exact⟨Nat.lt_of_lt_of_le this.1 C.size,this.2⟩
 .intro s g;rw[A4]at g;rw[AA.hV,bk (by omega)];exact h.dom s g
 .intro s g;rw[A4]at g;rw[AA.hV];by_cases A:d=s
  .subst A;rw[az rfl,Bu _ _ _ hd];exact J
  .rw[bk A,AO _ _ _ _ A];refine AG.kept P (fun i=>by rw[At _ _ _ _ (fun e=>A e.symm)]) (fun i b lo R=>C.block b (h.lt s i b lo R).1) (Hy (A4 _ _ _) (fun s g=>At _ _ _ _ (by omega))) (h.tA C) (fun q i k u⟨p,x⟩=>?_) (fun q N u⟨cs,r⟩=>?_) (fun q i u⟨p,x⟩=>?_) (h.slots s g)
   .by_cases f:d=q
    .subst f;exact absurd u (AA.tN d O (E (.inl (AA.sU x))) s i k)
    .rw[AA.si f]at x;exact⟨⟨p,x⟩,h.nh ⟨p,x⟩ (AO _ _ _ _ f) (fun j b _ I=>C.block b (h.lt _ _ _ _ I).1)⟩
   .rw[AA.hV]at r;by_cases f:d=q
    .subst f;rw[az rfl]at r;exact absurd u (AA.td d O (E (.inl ⟨cs,r⟩)) s N)
    .rw[bk f]at r;exact⟨⟨cs,r⟩,AO _ _ _ _ f⟩
   .by_cases f:d=q
    .subst f;have Q:=AA.tj d O (E (AA.th x)) s;rcases u with u|⟨c,u⟩
     .exact absurd u (Q.1 i)
     .exact absurd u (Q.2 i c)
    .rw[AA.sd f]at x;exact⟨⟨p,x⟩,h.xv ⟨p,x⟩ (AO _ _ _ _ f) (fun b I=>C.block b (h.lt _ _ _ _ I).1)⟩
 .intro s;rw[AA.hV];split
  .exact M
  .exact h.wf s
theorem AK.tv{w':World}(h:AK F0 w0 O a w G)(j:Below w.heap.size w w')(d:Nat)(hd:d<a.tmps.size)(t:TV)(v:Value)
  (f:AS w' (AN w0.heap.size F0 (F5 G d fun _=>none)) t v)(g:t.WF):
  BG F0 w0 ((d,.tv t)::O) (a.put (some d) v) w':=
 ⟨_,h.quiet j d hd (.tv t) v (fun _=>none) (by simp) (by simp) (by simp) f g⟩
theorem AK.tv_same(h:AK F0 w0 O a w G)(d:Nat)(hd:d<a.tmps.size)(t:TV)(v:Value)
  (f:AS w (AN w0.heap.size F0 G) t v)(g:t.WF):
  BG F0 w0 ((d,.tv t)::O) (a.put (some d) v) w:=
 h.tv (Below.refl _ _) d hd t v (BP (Gg (Below.refl _ _) d _ (by simp)) t v f) g
theorem AK.ow{w':World}(h:AK F0 w0 O a w G)(m:Below w.heap.size w w')(d:Nat)(hd:d<a.tmps.size)(t:TV)(v:Value)(z:Option (Nat×Nat))
  (r:∀b lo,z=some (b,lo)->w.heap.size<=b/\b<w'.heap.size)
  (f:BE w' (AN w0.heap.size F0 (F5 G d fun i=>if i=none then z else none)) z t v)(g:t.WF):
  BG F0 w0 ((d,.ow t)::O) (a.put (some d) v) w':=by
 refine ⟨_,h.quiet m d hd (.ow t) v (fun i=>if i=none then z else none) (fun i b lo hi=>?_) (fun i x b lo u j l=>?_) (by simp) ?_ g⟩
 .split at hi
  .exact r b lo hi
  .cases hi
 .split at j
  .split at l
   .simp_all
   .cases l
  .cases j
 .simp[AG,BN];exact f
end
section reads
variable{w:World}{F:Nat->Nat->Prop}
theorem Oo(n:Nat):∀(es:Fq)(b o:Nat),(∀e∈es,e.cells.length=n)->CF w F (es.flatMap TV.cells) b o->D3 w F n es b o
 |[],_,_,_,_=>trivial|e::es,b,o,f,h=>by
  rw [J9];have he:e.cells.length=n:=f e (by simp);rw[List.flatMap_cons]at h;refine⟨by have:=Ta h e.cells.length;simpa using this,he,Oo n es b (o+n) (fun x g=>f x (by simp[g])) ?_⟩;have:=JS h e.cells.length
  grind
theorem JJ(n:Nat):∀(es:Fq),(∀e∈es,e.cells.length=n)->(es.flatMap TV.cells).length=es.length*n
 |[],_=>by simp|e::es,f=>by
  rw [List.flatMap_cons,ci,JJ n es (fun x g=>f x (by simp[g])),f e (by simp),ez,Nat.add_mul,Nat.one_mul,Nat.add_comm]
variable{b o:Nat}
theorem K7{f:Fq}{xs:List Value}(h:AI w F f xs)(j:∀x∈xs,x.oneCell'=true)(l:∀(i:Nat)(x:Value),xs[i]?=some x->w.cell? ⟨b,o+i,none⟩=some x/\¬F b (o+i)):CF w F f b o:=by
 rw [FV];rw[A1]at h;intro i t hi;have g:i<f.length:=by
  grind
 have m:xs[i]?=some xs[i]:=List.getElem?_eq_getElem (by omega)
 grind
variable{size:Nat}{v:Value}{n:Nat}
theorem Dq.cell{xs:List Value}{z:Option (Nat×Nat)}{g cap:Nat}(h:Dq w size v n xs z)(hv:v=.slice (some ⟨g,0,none⟩) n cap):∀(j:Nat)(u:Value),xs[j]?=some u->w.cell? ⟨g,j,none⟩=some u:=by
 intro j u y;rcases h.2 with⟨rfl,_⟩|⟨r,m,f,e,rfl,x,_,_,_,l,_⟩
 .cases hv
 .simp only[Value.slice.injEq,rC,Addr.mk.injEq]at hv;obtain⟨⟨rfl,_⟩,_⟩:=hv;rw[cell_of_row w r j f e (0,0) x]
  grind
variable{t:TV}
theorem BE.uW{z:Option (Nat×Nat)}(h:BE w F z t v)(u:∀b lo o,z=some (b,lo)->o<lo->¬F b o):AS w F t v:=by
 cases t<;>simp[BE]at h;rename_i n es;obtain⟨xs,m,A,B,C⟩:=h;simp[AS];rcases m.2 with⟨rfl,J,r⟩|⟨g,cap,D,e,rfl,K,j,E,H,l,r⟩
 .grind
 .refine⟨some ⟨g,0,none⟩,cap,rfl,j,by simp,fun I f=>?_⟩;simp at f;subst f;refine⟨.inr rfl,Oo n es g 0 B (K7 A C fun i x y=>?_)⟩;rw[Nat.zero_add];refine⟨m.cell rfl i x y,u g _ i r ?_⟩
  grind
variable{ρ:E9}
theorem C0.uW{z:Option (Nat×Nat)}(h:C0 w F ρ z t v)(f:∀b lo o,z=some (b,lo)->o<lo->¬F b o):AS w F t v:=by
 cases t<;>first|exact BE.uW h f|skip
 all_goals
  obtain ⟨xs,⟨m,j,_⟩,_⟩:=h;simp[AS];rcases j.2 with⟨rfl,_⟩|⟨g,cap,l,e,rfl,_⟩<;>rfl
end reads
end Go.Sf
