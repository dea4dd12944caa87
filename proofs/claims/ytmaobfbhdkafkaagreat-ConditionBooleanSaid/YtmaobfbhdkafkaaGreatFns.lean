/- The functions of the program as Lean functions. -/
import Derived.Test.YtmaobfbhdkafkaaGreatTypes
import Derived.Test.YtmaobfbhdkafkaaGreatSfSort
set_option maxRecDepth 100000
namespace Go.Sf.Sc
open Go Go.Sf
noncomputable section
def KQ (c:Int):Option Bool:=
 some (((decide (97<=c))&&(decide (c<=122)))||((decide (65<=c))&&(decide (c<=90))))
def Hw [Ev] (s_0:ByteArray) (ok:Int->Option Bool):Option Int:=
 thenR (FB (ρ:=Int) (fun (s0:Int)=>
 (if (decide (s0<(s_0.size:Int)))=true then ((sidx s_0 s0).bind fun x14=>
 (ok x14).bind fun x15=>
 some (x15)) else some false).bind fun x16=>
 if x16=true then
 some (.next (AI (s0+1)))
 else
 some (.brk s0)) 0) (fun s0=>
 some s0) (fun v0=>some v0)
def J0 (c:Int):Option Bool:=
 some ((decide (48<=c))&&(decide (c<=57)))
def MC (c:Int):Option Bool:=
 (KQ c).bind fun x4=>
 (if x4=true then some true else ((J0 c).bind fun x7=>
 some (x7))).bind fun x8=>
 some (x8||(decide (c=95)))
def Kf (c:Int):Option Bool:=
 some (((decide (32<=c))&&(decide (c<=126)))&&(!decide (c=34)))
def HF [Ev] (s_0:ByteArray):Option (Int × Int):=
 (sslc s_0 1 s_0.size).bind fun x6=>
 (Hw x6 Kf).bind fun x7=>
 (if (decide ((AI (1+x7))=(s_0.size:Int)))=true then some true else ((sidx s_0 (AI (1+x7))).bind fun x17=>
 some (!decide (x17=34)))).bind fun x19=>
 if x19=true then
 some (0,2)
 else
 if (decide (60<x7))=true then
 some (0,3)
 else
 some (AI (x7+2),0)
def GQ (s_0:List ByteArray) (v_1:ByteArray):Option Int:=
 thenR (forR (ρ:=Int) (fun (i0:Int) (_:Unit)=>
 (AH s_0 i0).bind fun x14=>
 if (v_1==x14)=true then
 some (.ret i0)
 else
 some (.next ())) 0 (s_0.length:Int) ()) (fun _=>
 some (-1)) (fun v0=>some v0)
def DZ (s_0:List ByteArray) (v_1:ByteArray):Option Bool:=
 (GQ s_0 v_1).bind fun x7=>
 some (decide (0<=x7))
def MB (s_0:ByteArray):Option Bool:=
 (if (decide (2<=(s_0.size:Int)))=true then ((sslc s_0 0 2).bind fun x9=>
 (DZ [(⟨#[45,62]⟩:ByteArray),(⟨#[60,61]⟩:ByteArray),(⟨#[62,61]⟩:ByteArray),(⟨#[61,61]⟩:ByteArray),(⟨#[33,61]⟩:ByteArray)] x9).bind fun x10=>
 some (x10)) else some false).bind fun x11=>
 some x11
def strings_IndexByte (s:ByteArray) (c:Int):Option Int:=some (Go.Lib.indexByte s.data.toList c.toNat.toUInt8)
def Ih [Ev] (s_0:ByteArray):Option (Int × Int × Int):=
 (sidx s_0 0).bind fun x11=>
 (KQ x11).bind fun x14=>
 if x14=true then
 (Hw s_0 MC).bind fun x16=>
 if (decide (20<x16))=true then
 some (0,0,3)
 else
 some (1,x16,0)
 else
 (J0 x11).bind fun x22=>
 if x22=true then
 (Hw s_0 J0).bind fun x24=>
 if (decide (9<x24))=true then
 some (0,0,3)
 else
 some (2,x24,0)
 else
 if (decide (x11=34))=true then
 (HF s_0).bind fun x33=>
 some (3,x33.1,x33.2)
 else
 (MB s_0).bind fun x40=>
 if x40=true then
 some (4,2,0)
 else
 (strings_IndexByte (⟨#[123,125,40,41,91,93,44,59,58,61,43,45,42,60,62,33,38,124,46,63]⟩:ByteArray) x11).bind fun x43=>
 if (decide (0<=x43))=true then
 some (4,1,0)
 else
 some (0,0,2)
def Iu [Ev] (t:E7):Option (ByteArray × Bool):=
 (if (decide (t.Kind=3))=true then
 (Qq (⟨#[34]⟩:ByteArray) t.Text).bind fun x14=>
 (Qq x14 (⟨#[34]⟩:ByteArray)).bind fun x15=>
 some x15
 else
 some t.Text).bind fun w1=>
 if (w1==(⟨#[]⟩:ByteArray))=true then
 some ((⟨#[]⟩:ByteArray),false)
 else
 (Ih w1).bind fun x20=>
 some (w1,((decide (x20.2.2=0))&&(decide (x20.1=t.Kind)))&&(decide (x20.2.1=(w1.size:Int))))
def EG [Ev] (s_0:ByteArray):Option Bool:=
 (Iu (E7.mk 1 s_0 0)).bind fun x8=>
 some x8.2
def DP [Ev] (s_0:List BE) (f:BE->Option Bool):Option Int:=
 thenR (forR (ρ:=Int) (fun (i0:Int) (_:Unit)=>
 (AH s_0 i0).bind fun x14=>
 (f x14).bind fun x16=>
 if x16=true then
 some (.ret i0)
 else
 some (.next ())) 0 (s_0.length:Int) ()) (fun _=>
 some (-1)) (fun v0=>some v0)
def CM [Ev] (s_0:List BE) (f:BE->Option Bool):Option Bool:=
 (DP s_0 f).bind fun x7=>
 some (decide (0<=x7))
def ME (m:BE) (c0:BE):Option Bool:=
 some (m.Name==c0.Name)
def DS [Ev]:Nat->Types->Int->Option (List Attr)
 | 0,_,_=>none
 | n+1,t,a=>
  (AH t.Nodes a).bind fun x10=>
  (if (decide (0<=x10.Parent))=true then
  (DS n t x10.Parent).bind fun x17=>
  some x17
  else
  some []).bind fun w1=>
  (AH t.Nodes a).bind fun x22=>
  (A3 w1 x22.Attrs).bind fun x25=>
  some x25
def J1 [Ev] (t:Types) (a:Int):Option (List Attr):=J7 fun n=>DS n t a
def D8 [Ev] (s_0:List Attr) (f:Attr->Option Bool):Option Int:=
 thenR (forR (ρ:=Int) (fun (i0:Int) (_:Unit)=>
 (AH s_0 i0).bind fun x14=>
 (f x14).bind fun x16=>
 if x16=true then
 some (.ret i0)
 else
 some (.next ())) 0 (s_0.length:Int) ()) (fun _=>
 some (-1)) (fun v0=>some v0)
def DA [Ev] (s_0:List Attr) (f:Attr->Option Bool):Option Bool:=
 (D8 s_0 f).bind fun x7=>
 some (decide (0<=x7))
def Iy (y:Attr) (c0:Attr):Option Bool:=
 some (y.Name==c0.Name)
def Hy [Ev] (l:List ByteArray):Option Int:=
 if (decide (20<(l.length:Int)))=true then
 some 3
 else
 thenR (forR (ρ:=Int) (fun (i0:Int) (_:Unit)=>
 (AH l i0).bind fun x13=>
 (EG x13).bind fun x17=>
 if (!x17)=true then
 some (.ret 2)
 else
 (slc l 0 i0).bind fun x22=>
 (DZ x22 x13).bind fun x24=>
 if x24=true then
 some (.ret 5)
 else
 some (.next ())) 0 (l.length:Int) ()) (fun _=>
 some 0) (fun v0=>some v0)
def E1 [Ev] (x_0:Attr) (before:List Attr):Option Int:=
 (EG x_0.Name).bind fun x10=>
 if (!x10)=true then
 some 2
 else
 (DA before (fun y0=>Iy y0 x_0)).bind fun x15=>
 if x15=true then
 some 5
 else
 (Hy x_0.Names).bind fun x18=>
 if (!decide (x18=0))=true then
 some x18
 else
 (if (decide (0<(x_0.Names.length:Int)))=true then
 some ((decide (x_0.Low=0))&&(decide (x_0.High=(AI ((x_0.Names.length:Int) - 1)))))
 else
 some (((decide ((-1000000)<=x_0.Low))&&(decide (x_0.Low<=x_0.High)))&&(decide (x_0.High<=1000000)))).bind fun w1=>
 if (!w1)=true then
 some 6
 else
 some 0
def Ik [Ev] (t:Types) (i_1:Int):Option Int:=
 (AH t.Nodes i_1).bind fun x12=>
 (EG x12.Name).bind fun x17=>
 if (!x17)=true then
 some 2
 else
 (slc t.Nodes 0 i_1).bind fun x23=>
 (CM x23 (fun y0=>ME y0 x12)).bind fun x25=>
 if x25=true then
 some 5
 else
 if ((decide (x12.Parent<(-1)))||(decide (i_1<=x12.Parent)))=true then
 some 6
 else
 if (decide (4<(x12.Attrs.length:Int)))=true then
 some 3
 else
 (J1 t i_1).bind fun x43=>
 if (decide (8<(x43.length:Int)))=true then
 some 3
 else
 thenR (forR (ρ:=Int) (fun (i1:Int) (_:Unit)=>
 (AH x43 i1).bind fun x61=>
 (slc x43 0 i1).bind fun x65=>
 (E1 x61 x65).bind fun x66=>
 if (!decide (x66=0))=true then
 some (.ret x66)
 else
 some (.next ())) (AI ((x43.length:Int) - (x12.Attrs.length:Int))) (x43.length:Int) ()) (fun _=>
 some 0) (fun v1=>some v1)
def KS (n:Int) (c0:Types):Option Bool:=
 some ((decide (0<=n))&&(decide (n<(c0.Nodes.length:Int))))
def DO [Ev] (s_0:List CJ) (f:CJ->Option Bool):Option Int:=
 thenR (forR (ρ:=Int) (fun (i0:Int) (_:Unit)=>
 (AH s_0 i0).bind fun x14=>
 (f x14).bind fun x16=>
 if x16=true then
 some (.ret i0)
 else
 some (.next ())) 0 (s_0.length:Int) ()) (fun _=>
 some (-1)) (fun v0=>some v0)
def CL [Ev] (s_0:List CJ) (f:CJ->Option Bool):Option Bool:=
 (DO s_0 f).bind fun x7=>
 some (decide (0<=x7))
def MD (y:CJ) (c0:CJ):Option Bool:=
 some (y.Name==c0.Name)
def Jn (low:Int) (high:Int):Option Bool:=
 some (((decide (0<=low))&&(decide (low<=40)))&&((decide (high=(-1)))||((decide (low<=high))&&(decide (high<=40)))))
def Ij [Ev] (t:Types) (i_1:Int):Option Int:=
 (AH t.Edges i_1).bind fun x10=>
 (EG x10.Name).bind fun x16=>
 if (!x16)=true then
 some 2
 else
 (slc t.Edges 0 i_1).bind fun x22=>
 (CL x22 (fun y0=>MD y0 x10)).bind fun x24=>
 if x24=true then
 some 5
 else
 (KS x10.From t).bind fun x29=>
 (if (!x29)=true then some true else ((KS x10.To t).bind fun x35=>
 some (!x35))).bind fun x37=>
 (if x37=true then
 some x37
 else
 (Jn x10.OutLow x10.OutHigh).bind fun x42=>
 (if (!x42)=true then some true else ((Jn x10.InLow x10.InHigh).bind fun x49=>
 some (!x49))).bind fun x51=>
 some x51).bind fun w1=>
 if w1=true then
 some 6
 else
 some 0
def E6 [Ev] (t:Types):Option (ByteArray × Int):=
 if (decide ((t.Nodes.length:Int)=0))=true then
 some ((⟨#[]⟩:ByteArray),7)
 else
 if ((decide (12<(t.Nodes.length:Int)))||(decide (20<(t.Edges.length:Int))))=true then
 some ((⟨#[]⟩:ByteArray),3)
 else
 thenR (forR (ρ:=(ByteArray × Int)) (fun (i1:Int) (_:Unit)=>
 (AH t.Nodes i1).bind fun x32=>
 (Ik t i1).bind fun x36=>
 if (!decide (x36=0))=true then
 some (.ret (x32.Name,x36))
 else
 some (.next ())) 0 (t.Nodes.length:Int) ()) (fun _=>
 thenR (forR (ρ:=(ByteArray × Int)) (fun (i3:Int) (_:Unit)=>
 (AH t.Edges i3).bind fun x49=>
 (Ij t i3).bind fun x53=>
 if (!decide (x53=0))=true then
 some (.ret (x49.Name,x53))
 else
 some (.next ())) 0 (t.Edges.length:Int) ()) (fun _=>
 some ((⟨#[]⟩:ByteArray),0)) (fun v3=>some v3)) (fun v1=>some v1)
def EM [Ev] (s_0:List Int) (f:Int->Option Bool):Option Int:=
 thenR (forR (ρ:=Int) (fun (i0:Int) (_:Unit)=>
 (AH s_0 i0).bind fun x14=>
 (f x14).bind fun x16=>
 if x16=true then
 some (.ret i0)
 else
 some (.next ())) 0 (s_0.length:Int) ()) (fun _=>
 some (-1)) (fun v0=>some v0)
def BI [Ev] (s_0:List Int) (f:Int->Option Bool):Option Bool:=
 (EM s_0 f).bind fun x7=>
 some (decide (0<=x7))
def D9 [Ev] (s_0:List B6) (f:B6->Option Bool):Option Int:=
 thenR (forR (ρ:=Int) (fun (i0:Int) (_:Unit)=>
 (AH s_0 i0).bind fun x14=>
 (f x14).bind fun x16=>
 if x16=true then
 some (.ret i0)
 else
 some (.next ())) 0 (s_0.length:Int) ()) (fun _=>
 some (-1)) (fun v0=>some v0)
def BT [Ev] (s_0:List B6) (f:B6->Option Bool):Option Bool:=
 (D9 s_0 f).bind fun x7=>
 some (decide (0<=x7))
def H6 (n:Int) (most:Int):Option Bool:=
 some ((decide (0<=n))&&(decide (n<=most)))
def LB (t:Int):Option Bool:=
 (H6 t 99).bind fun x4=>
 some (!x4)
def Lp (e:B6) (nodes:Int):Option Bool:=
 (H6 e.Type' 99).bind fun x7=>
 (if x7=true then ((H6 e.From (AI (nodes - 1))).bind fun x13=>
 some (x13)) else some false).bind fun x14=>
 (if x14=true then ((H6 e.To (AI (nodes - 1))).bind fun x20=>
 some (x20)) else some false).bind fun x21=>
 some x21
def LC (e:B6) (c0:Graph):Option Bool:=
 (Lp e (c0.Nodes.length:Int)).bind fun x8=>
 some (!x8)
def DY [Ev] (g:Graph):Option Int:=
 if ((decide (40<(g.Nodes.length:Int)))||(decide (80<(g.Edges.length:Int))))=true then
 some 3
 else
 (BI g.Nodes LB).bind fun x15=>
 if x15=true then
 some 6
 else
 (BT g.Edges (fun y0=>LC y0 g)).bind fun x19=>
 if x19=true then
 some 6
 else
 some 0
def HQ (n:Int) (c0:Types):Option Bool:=
 some (decide ((c0.Nodes.length:Int)<=n))
def HT (x_0:B6) (c0:Types):Option Bool:=
 some (decide ((c0.Edges.length:Int)<=x_0.Type'))
def C8 (n:Int) (low:Int) (high:Int):Option Bool:=
 some ((decide (low<=n))&&(decide (n<=high)))
def LF (a:Int) (c0:Types):Option Bool:=
 some ((decide (a<0))||(decide ((c0.Nodes.length:Int)<=a)))
def FW [Ev] (t:Types) (l:List Int):Option Int:=
 (E6 t).bind fun x9=>
 if (!decide (x9.2=0))=true then
 some x9.2
 else
 (BI l (fun y0=>LF y0 t)).bind fun x17=>
 if x17=true then
 some 6
 else
 some 0
def slices_Clone_string (s_0:List ByteArray):Option (List ByteArray):=
 A3 [] s_0
def G2 [Ev] (t:Types) (a:Int):Option (List Attr × Int):=
 (FW t [a]).bind fun x12=>
 if (!decide (x12=0))=true then
 some ([],x12)
 else
 (J1 t a).bind fun x18=>
 (forA (fun (i0:Int) (s0:List Attr)=>
 (AH s0 i0).bind fun x28=>
 (slices_Clone_string x28.Names).bind fun x31=>
 (AH s0 i0).bind fun x32=>
 some (CP s0 i0 (Attr.mk x32.Name x32.Low x32.High x31))) 0 (x18.length:Int) x18).bind fun s0=>
 some (s0,0)
def FH [Ev] (t:Types) (p:Pattern) (s_2:CT):Option (Attr × Bool):=
 (C8 s_2.Node 0 (AI ((p.Graph.Nodes.length:Int) - 1))).bind fun x17=>
 if (!x17)=true then
 some (Attr.mk (⟨#[]⟩:ByteArray) 0 0 [],false)
 else
 (AH p.Graph.Nodes s_2.Node).bind fun x27=>
 (G2 t x27).bind fun x29=>
 (C8 s_2.Attr 0 (AI ((x29.1.length:Int) - 1))).bind fun x37=>
 if (!x37)=true then
 some (Attr.mk (⟨#[]⟩:ByteArray) 0 0 [],false)
 else
 (AH x29.1 s_2.Attr).bind fun x43=>
 some (x43,true)
def IR (n:Int) (t:Term):Option Bool:=
 some ((((decide ((-1)<=t.Var))&&(decide (t.Var<n)))&&(decide ((-1000000)<=t.Add)))&&(decide (t.Add<=1000000)))
def I2 (n:Int) (x_1:Test):Option Int:=
 if ((!decide (x_1.Kind=1))&&(!decide (x_1.Kind=2)))=true then
 some 1
 else
 (IR n x_1.Left).bind fun x18=>
 (if (!x18)=true then some true else ((IR n x_1.Right).bind fun x24=>
 some (!x24))).bind fun x26=>
 if x26=true then
 some 6
 else
 some 0
def H4 (n:Int) (l:List Test):Option Int:=
 if ((decide (n<0))||(decide (12<n)))=true then
 some 6
 else
 if (decide (40<(l.length:Int)))=true then
 some 3
 else
 thenR (forR (ρ:=Int) (fun (i0:Int) (_:Unit)=>
 (AH l i0).bind fun x21=>
 (I2 n x21).bind fun x25=>
 if (!decide (x25=0))=true then
 some (.ret x25)
 else
 some (.next ())) 0 (l.length:Int) ()) (fun _=>
 some 0) (fun v0=>some v0)
def Ix (s_0:List Bool) (v_1:Bool):Option Int:=
 thenR (forR (ρ:=Int) (fun (i0:Int) (_:Unit)=>
 (AH s_0 i0).bind fun x14=>
 if (v_1==x14)=true then
 some (.ret i0)
 else
 some (.next ())) 0 (s_0.length:Int) ()) (fun _=>
 some (-1)) (fun v0=>some v0)
def GA (s_0:List Bool) (v_1:Bool):Option Bool:=
 (Ix s_0 v_1).bind fun x7=>
 some (decide (0<=x7))
def DT [Ev] (t:Types) (p:Pattern):Option Int:=
 (E6 t).bind fun x16=>
 if (!decide (x16.2=0))=true then
 some x16.2
 else
 (DY p.Graph).bind fun x24=>
 if (!decide (x24=0))=true then
 some x24
 else
 (BI p.Graph.Nodes (fun y0=>HQ y0 t)).bind fun x32=>
 (if x32=true then some true else ((BT p.Graph.Edges (fun y0=>HT y0 t)).bind fun x38=>
 some (x38))).bind fun x39=>
 if x39=true then
 some 13
 else
 (C8 p.Vars 0 12).bind fun x42=>
 if (!x42)=true then
 some 6
 else
 if ((decide (10<(p.Slots.length:Int)))||(decide (10<(p.Tests.length:Int))))=true then
 some 3
 else
 (J8 p.Vars false).bind fun x56=>
 thenR (forR (ρ:=Int) (fun (i0:Int) (s0:List Bool)=>
 (AH p.Slots i0).bind fun x62=>
 (FH t p x62).bind fun x68=>
 (if (!x68.2)=true then some true else ((C8 x62.Term.Var (-1) (AI (p.Vars - 1))).bind fun x80=>
 some (!x80))).bind fun x82=>
 (if x82=true then some true else ((C8 x62.Term.Add (-1000000) 1000000).bind fun x87=>
 some (!x87))).bind fun x89=>
 if x89=true then
 some (.ret 6)
 else
 if (decide (0<=x62.Term.Var))=true then
 (AH s0 x62.Term.Var).bind fun x98=>
 some (.next (CP s0 x62.Term.Var true))
 else
 some (.next s0)) 0 (p.Slots.length:Int) x56) (fun s0=>
 (H4 p.Vars p.Tests).bind fun x104=>
 if (!decide (x104=0))=true then
 some x104
 else
 (GA s0 false).bind fun x109=>
 if x109=true then
 some 9
 else
 some 0) (fun v0=>some v0)
def FI (c:AA):Option Bool:=
 some ((decide ((AI ((AI ((AI ((AI ((AI ((c.Map.Nodes.length:Int)+(c.Map.Edges.length:Int)))+(c.Pattern.Graph.Nodes.length:Int)))+(c.Pattern.Graph.Edges.length:Int)))+(c.Pattern.Slots.length:Int)))+(c.Pattern.Tests.length:Int)))=0))&&(decide (c.Pattern.Vars=0)))
def DF [Ev] (s_0:List AA) (f:AA->Option Bool):Option Int:=
 thenR (forR (ρ:=Int) (fun (i0:Int) (_:Unit)=>
 (AH s_0 i0).bind fun x14=>
 (f x14).bind fun x16=>
 if x16=true then
 some (.ret i0)
 else
 some (.next ())) 0 (s_0.length:Int) ()) (fun _=>
 some (-1)) (fun v0=>some v0)
def B0 [Ev] (s_0:List AA) (f:AA->Option Bool):Option Bool:=
 (DF s_0 f).bind fun x7=>
 some (decide (0<=x7))
mutual
def BL [Ev]:Nat->AA->Option Bool
 | 0,_=>none
 | n+1,c=>
  (if (decide (c.Kind=1))=true then
  (if (decide ((c.Kids.length:Int)=0))=true then ((FI c).bind fun x16=>
  some (x16)) else some false).bind fun x17=>
  some x17
  else
  if (decide (c.Kind=2))=true then
  (if (decide ((c.Kids.length:Int)=1))=true then ((FI c).bind fun x24=>
  some (x24)) else some false).bind fun x25=>
  some x25
  else
  if (decide (c.Kind=3))=true then
  if (decide (c.Kind=3))=true then
  (if (decide (1<=(c.Kids.length:Int)))=true then ((FI c).bind fun x33=>
  some (x33)) else some false).bind fun x34=>
  some x34
  else
  if (decide (c.Kind=5))=true then
  some (decide ((c.Kids.length:Int)=1))
  else
  some false
  else
  if (decide (c.Kind=4))=true then
  (if (decide (1<=(c.Kids.length:Int)))=true then ((FI c).bind fun x33=>
  some (x33)) else some false).bind fun x34=>
  some x34
  else
  if (decide (c.Kind=5))=true then
  some (decide ((c.Kids.length:Int)=1))
  else
  some false).bind fun w1=>
  (if w1=true then ((B0 c.Kids (BP n)).bind fun x43=>
  some (!x43)) else some false).bind fun x45=>
  some x45
def BP [Ev]:Nat->AA->Option Bool
 | 0,_=>none
 | n+1,k=>
  (BL n k).bind fun x4=>
  some (!x4)
end
def F3 [Ev] (c:AA):Option Bool:=J7 fun n=>BL n c
def OS [Ev] (k:AA):Option Bool:=J7 fun n=>BP n k
def CQ [Ev]:Nat->AA->Option (Int × Int)
 | 0,_=>none
 | n+1,c=>
  (forA (fun (i0:Int) (s0:Int × Int)=>
  (AH c.Kids i0).bind fun x15=>
  (CQ n x15).bind fun x19=>
  some (AI (s0.1+x19.1),max s0.2 x19.2)) 0 (c.Kids.length:Int) (1,0)).bind fun s0=>
  (if (decide (c.Kind=5))=true then
  some (AI (s0.2+1))
  else
  some s0.2).bind fun w1=>
  some (s0.1,w1)
def HU [Ev] (c:AA):Option (Int × Int):=J7 fun n=>CQ n c
def EY [Ev] (c:AA):Option Int:=
 (F3 c).bind fun x6=>
 if (!x6)=true then
 some 1
 else
 (HU c).bind fun x10=>
 if ((decide (12<x10.1))||(decide (3<x10.2)))=true then
 some 3
 else
 some 0
def EA [Ev] (s_0:List CT) (f:CT->Option Bool):Option Int:=
 thenR (forR (ρ:=Int) (fun (i0:Int) (_:Unit)=>
 (AH s_0 i0).bind fun x14=>
 (f x14).bind fun x16=>
 if x16=true then
 some (.ret i0)
 else
 some (.next ())) 0 (s_0.length:Int) ()) (fun _=>
 some (-1)) (fun v0=>some v0)
def DB [Ev] (s_0:List CT) (f:CT->Option Bool):Option Bool:=
 (EA s_0 f).bind fun x7=>
 some (decide (0<=x7))
def ID (s_0:CT) (c0:Int):Option Bool:=
 some (decide (s_0.Term.Var=c0))
def D1 [Ev] (t:Types) (q:Pattern) (outer:Int):Option Int:=
 (DT t q).bind fun x11=>
 if (!decide (x11=9))=true then
 some x11
 else
 thenR (FB (ρ:=Int) (fun (s0:Int)=>
 if (decide (s0<q.Vars))=true then
 (DB q.Slots (fun y0=>ID y0 s0)).bind fun x25=>
 if (!x25)=true then
 some (.ret x11)
 else
 some (.next (AI (s0+1)))
 else
 some (.brk s0)) outer) (fun s0=>
 some 0) (fun v0=>some v0)
def EH [Ev] (a:Graph) (b:Graph) (m:Morphism):Option Int:=
 (DY a).bind fun x16=>
 if (!decide (x16=0))=true then
 some x16
 else
 (DY b).bind fun x21=>
 if (!decide (x21=0))=true then
 some x21
 else
 if ((!decide ((m.Nodes.length:Int)=(a.Nodes.length:Int)))||(!decide ((m.Edges.length:Int)=(a.Edges.length:Int))))=true then
 some 20
 else
 thenR (forR (ρ:=Int) (fun (i0:Int) (_:Unit)=>
 (AH m.Nodes i0).bind fun x47=>
 if ((decide (x47<0))||(decide ((b.Nodes.length:Int)<=x47)))=true then
 some (.ret 6)
 else
 (AH b.Nodes x47).bind fun x61=>
 (AH a.Nodes i0).bind fun x66=>
 if (!decide (x61=x66))=true then
 some (.ret 13)
 else
 some (.next ())) 0 (m.Nodes.length:Int) ()) (fun _=>
 thenR (forR (ρ:=Int) (fun (i2:Int) (_:Unit)=>
 (AH m.Edges i2).bind fun x76=>
 if ((decide (x76<0))||(decide ((b.Edges.length:Int)<=x76)))=true then
 some (.ret 6)
 else
 (AH a.Edges i2).bind fun x90=>
 (AH b.Edges x76).bind fun x95=>
 if (!decide (x90.Type'=x95.Type'))=true then
 some (.ret 13)
 else
 (AH m.Nodes x90.From).bind fun x106=>
 (if (!decide (x106=x95.From))=true then some true else ((AH m.Nodes x90.To).bind fun x116=>
 some (!decide (x116=x95.To)))).bind fun x121=>
 if x121=true then
 some (.ret 11)
 else
 some (.next ())) 0 (m.Edges.length:Int) ()) (fun _=>
 some 0) (fun v2=>some v2)) (fun v0=>some v0)
def slices_Clone_int (s_0:List Int):Option (List Int):=
 A3 [] s_0
def slices_Sort_int (l:List Int):Option (List Int):=if l.length<=BF then some (N7 l) else none
def slices_Compact_int (l:List Int):Option (List Int):=if l.length<=BF then some (Go.Lib.compact l) else none
def HK (l:List Int):Option Int:=
 (slices_Clone_int l).bind fun x5=>
 (slices_Sort_int x5).bind fun x7=>
 (slices_Compact_int x7).bind fun x9=>
 some (x9.length:Int)
def DV [Ev] (a:Graph) (b:Graph) (m:Morphism):Option Bool:=
 (EH a b m).bind fun x10=>
 (if (decide (x10=0))=true then ((HK m.Nodes).bind fun x15=>
 some (decide (x15=(m.Nodes.length:Int)))) else some false).bind fun x20=>
 (if x20=true then ((HK m.Edges).bind fun x24=>
 some (decide (x24=(m.Edges.length:Int)))) else some false).bind fun x29=>
 some x29
def CB [Ev]:Nat->Types->Pattern->AA->Option Int
 | 0,_,_,_=>none
 | n+1,t,p,c=>
  if (decide (c.Kind=5))=true then
  if (decide (c.Pattern.Vars<p.Vars))=true then
  some 20
  else
  (D1 t c.Pattern p.Vars).bind fun x27=>
  if (!decide (x27=0))=true then
  some x27
  else
  (EH p.Graph c.Pattern.Graph c.Map).bind fun x37=>
  if (!decide (x37=0))=true then
  some x37
  else
  (DV p.Graph c.Pattern.Graph c.Map).bind fun x47=>
  if (!x47)=true then
  some 1
  else
  thenR (forR (ρ:=Int) (fun (i0:Int) (_:Unit)=>
  (AH c.Kids i0).bind fun x55=>
  (CB n t c.Pattern x55).bind fun x60=>
  if (!decide (x60=0))=true then
  some (.ret x60)
  else
  some (.next ())) 0 (c.Kids.length:Int) ()) (fun _=>
  some 0) (fun v0=>some v0)
  else
  thenR (forR (ρ:=Int) (fun (i0:Int) (_:Unit)=>
  (AH c.Kids i0).bind fun x55=>
  (CB n t p x55).bind fun x60=>
  if (!decide (x60=0))=true then
  some (.ret x60)
  else
  some (.next ())) 0 (c.Kids.length:Int) ()) (fun _=>
  some 0) (fun v0=>some v0)
def JO [Ev] (t:Types) (p:Pattern) (c:AA):Option Int:=J7 fun n=>CB n t p c
def DU [Ev] (t:Types) (p:Pattern) (c:AA):Option Int:=
 (DT t p).bind fun x11=>
 if (!decide (x11=0))=true then
 some x11
 else
 (EY c).bind fun x16=>
 if (!decide (x16=0))=true then
 some x16
 else
 (JO t p c).bind fun x23=>
 some x23
def FE (s1_0:List Int) (s2_1:List Int):Option Bool:=
 if (!decide ((s1_0.length:Int)=(s2_1.length:Int)))=true then
 some false
 else
 thenR (forR (ρ:=Bool) (fun (i0:Int) (_:Unit)=>
 (AH s1_0 i0).bind fun x18=>
 (AH s2_1 i0).bind fun x22=>
 if (!decide (x18=x22))=true then
 some (.ret false)
 else
 some (.next ())) 0 (s1_0.length:Int) ()) (fun _=>
 some true) (fun v0=>some v0)
def JG [Ev] (t:Types) (kind:Int) (BB:List Int):Option Int:=
 if (decide ((t.Nodes.length:Int)<=kind))=true then
 some 6
 else
 (AH t.Nodes kind).bind fun x19=>
 if x19.Abstract=true then
 some 13
 else
 (G2 t kind).bind fun x25=>
 if (!decide ((BB.length:Int)=(x25.1.length:Int)))=true then
 some 20
 else
 thenR (forR (ρ:=Int) (fun (i0:Int) (_:Unit)=>
 (AH x25.1 i0).bind fun x38=>
 (AH BB i0).bind fun x42=>
 (if (decide (x42<x38.Low))=true then some true else ((AH BB i0).bind fun x50=>
 some (decide (x38.High<x50)))).bind fun x55=>
 if x55=true then
 some (.ret 6)
 else
 some (.next ())) 0 (x25.1.length:Int) ()) (fun _=>
 some 0) (fun v0=>some v0)
def IC (s_0:List Int) (v_1:Int):Option Int:=
 thenR (forR (ρ:=Int) (fun (i0:Int) (_:Unit)=>
 (AH s_0 i0).bind fun x14=>
 if (decide (v_1=x14))=true then
 some (.ret i0)
 else
 some (.next ())) 0 (s_0.length:Int) ()) (fun _=>
 some (-1)) (fun v0=>some v0)
def DC (s_0:List Int) (v_1:Int):Option Bool:=
 (IC s_0 v_1).bind fun x7=>
 some (decide (0<=x7))
def slices_Reverse_int (l:List Int):Option (List Int):=if l.length<=BF then some l.reverse else none
def JX [Ev] (t:Types) (a:Int):Option (List Int):=
 thenR (FB (ρ:=(List Int)) (fun (s0:Int × List Int)=>
 if (decide (0<=s0.1))=true then
 (A3 s0.2 [s0.1]).bind fun x17=>
 (AH t.Nodes s0.1).bind fun x11=>
 some (.next (x11.Parent,x17))
 else
 some (.brk (s0.1,s0.2))) (a,[])) (fun s0=>
 (slices_Reverse_int s0.2).bind fun x19=>
 some x19) (fun v0=>some v0)
def Iv [Ev] (t:Types) (a:Int) (b:Int):Option Bool:=
 (JX t a).bind fun x9=>
 (DC x9 b).bind fun x11=>
 some x11
def Ii [Ev] (t:Types) (edge:Int) (from':Int) (to':Int):Option Bool:=
 (FW t [from',to']).bind fun x13=>
 if (((!decide (x13=0))||(decide (edge<0)))||(decide ((t.Edges.length:Int)<=edge)))=true then
 some false
 else
 (AH t.Edges edge).bind fun x31=>
 (Iv t from' x31.From).bind fun x34=>
 (if x34=true then ((AH t.Edges edge).bind fun x41=>
 (Iv t to' x41.To).bind fun x44=>
 some (x44)) else some false).bind fun x45=>
 some x45
def HZ [Ev] (t:Types) (h_1:AY):Option (Int × Int):=
 (E6 t).bind fun x16=>
 if (!decide (x16.2=0))=true then
 some ((-1),x16.2)
 else
 (DY h_1.Graph).bind fun x24=>
 if (!decide (x24=0))=true then
 some ((-1),x24)
 else
 if (!decide ((h_1.Values.length:Int)=(h_1.Graph.Nodes.length:Int)))=true then
 some ((-1),20)
 else
 thenR (forR (ρ:=(Int × Int)) (fun (i0:Int) (_:Unit)=>
 (AH h_1.Graph.Nodes i0).bind fun x43=>
 (AH h_1.Values i0).bind fun x50=>
 (JG t x43 x50).bind fun x52=>
 if (!decide (x52=0))=true then
 some (.ret (i0,x52))
 else
 some (.next ())) 0 (h_1.Graph.Nodes.length:Int) ()) (fun _=>
 thenR (forR (ρ:=(Int × Int)) (fun (i2:Int) (_:Unit)=>
 (AH h_1.Graph.Edges i2).bind fun x65=>
 if (decide ((t.Edges.length:Int)<=x65.Type'))=true then
 some (.ret (i2,6))
 else
 (AH h_1.Graph.Nodes x65.From).bind fun x82=>
 (AH h_1.Graph.Nodes x65.To).bind fun x89=>
 (Ii t x65.Type' x82 x89).bind fun x91=>
 if (!x91)=true then
 some (.ret (i2,13))
 else
 some (.next ())) 0 (h_1.Graph.Edges.length:Int) ()) (fun _=>
 some ((-1),0)) (fun v2=>some v2)) (fun v0=>some v0)
def KA (n:Int) (c0:Types):Option Bool:=
 some (decide ((c0.Nodes.length:Int)<=n))
def KB (x_0:B6) (c0:Types):Option Bool:=
 some (decide ((c0.Edges.length:Int)<=x_0.Type'))
def FA [Ev] (t:Types) (g:Graph):Option Bool:=
 (BI g.Nodes (fun y0=>KA y0 t)).bind fun x8=>
 (if (!x8)=true then ((BT g.Edges (fun y0=>KB y0 t)).bind fun x14=>
 some (!x14)) else some false).bind fun x16=>
 some x16
def F9 [Ev] (t:Types) (p:Graph) (g:Graph):Option Int:=
 (E6 t).bind fun x14=>
 if (!decide (x14.2=0))=true then
 some x14.2
 else
 thenR (forR (ρ:=Int) (fun (i0:Int) (_:Unit)=>
 (AH [p,g] i0).bind fun x26=>
 (DY x26).bind fun x29=>
 if (!decide (x29=0))=true then
 some (.ret x29)
 else
 some (.next ())) 0 ([p,g].length:Int) ()) (fun _=>
 (FA t p).bind fun x36=>
 (if (!x36)=true then some true else ((FA t g).bind fun x41=>
 some (!x41))).bind fun x43=>
 if x43=true then
 some 13
 else
 some 0) (fun v0=>some v0)
def Hx [Ev] (t:Types) (a:Int):Option (List Int × Int):=
 (FW t [a]).bind fun x12=>
 if (!decide (x12=0))=true then
 some ([],x12)
 else
 (forA (fun (i0:Int) (s0:List Int)=>
 (Iv t i0 a).bind fun x25=>
 if x25=true then
 (A3 s0 [i0]).bind fun x29=>
 some x29
 else
 some s0) 0 (t.Nodes.length:Int) []).bind fun s0=>
 some (s0,0)
def F8 [Ev] (t:Types):Option (List (List Bool)):=
 (forA (fun (i0:Int) (s0:List (List Bool))=>
 (J8 (t.Nodes.length:Int) false).bind fun x19=>
 (Hx t i0).bind fun x23=>
 (forA (fun (i2:Int) (s2:List Bool)=>
 (AH x23.1 i2).bind fun x30=>
 (AH s2 x30).bind fun x34=>
 some (CP s2 x30 true)) 0 (x23.1.length:Int) x19).bind fun s2=>
 (A3 s0 [s2]).bind fun x39=>
 some x39) 0 (t.Nodes.length:Int) []).bind fun s0=>
 some s0
def HE [Ev] (t:Types) (p:Graph) (g:Graph) (m:Morphism):Option Int:=
 if ((!decide ((m.Nodes.length:Int)=(p.Nodes.length:Int)))||(!decide ((m.Edges.length:Int)=(p.Edges.length:Int))))=true then
 some 20
 else
 (F8 t).bind fun x33=>
 thenR (forR (ρ:=Int) (fun (i0:Int) (_:Unit)=>
 (AH m.Nodes i0).bind fun x40=>
 if ((decide (x40<0))||(decide ((g.Nodes.length:Int)<=x40)))=true then
 some (.ret 6)
 else
 (AH p.Nodes i0).bind fun x55=>
 (AH x33 x55).bind fun x57=>
 (AH g.Nodes x40).bind fun x62=>
 (AH x57 x62).bind fun x64=>
 if (!x64)=true then
 some (.ret 13)
 else
 some (.next ())) 0 (m.Nodes.length:Int) ()) (fun _=>
 thenR (forR (ρ:=Int) (fun (i2:Int) (_:Unit)=>
 (AH m.Edges i2).bind fun x74=>
 if ((decide (x74<0))||(decide ((g.Edges.length:Int)<=x74)))=true then
 some (.ret 6)
 else
 (AH p.Edges i2).bind fun x88=>
 (AH g.Edges x74).bind fun x93=>
 if (!decide (x88.Type'=x93.Type'))=true then
 some (.ret 13)
 else
 (AH m.Nodes x88.From).bind fun x104=>
 (if (!decide (x104=x93.From))=true then some true else ((AH m.Nodes x88.To).bind fun x114=>
 some (!decide (x114=x93.To)))).bind fun x119=>
 if x119=true then
 some (.ret 11)
 else
 some (.next ())) 0 (m.Edges.length:Int) ()) (fun _=>
 some 0) (fun v2=>some v2)) (fun v0=>some v0)
def IB (l:List Int):Option Bool:=if l.length<=4096 then some (dupB l) else none
def F7 [Ev] (t:Types) (p:Graph) (g:Graph) (m:Morphism) (injective:Bool):Option Int:=
 (F9 t p g).bind fun x16=>
 if (!decide (x16=0))=true then
 some x16
 else
 (HE t p g m).bind fun x24=>
 if (!decide (x24=0))=true then
 some x24
 else
 (if injective=true then ((IB m.Nodes).bind fun x32=>
 (if x32=true then some true else ((IB m.Edges).bind fun x36=>
 some (x36))).bind fun x37=>
 some (x37)) else some false).bind fun x38=>
 if x38=true then
 some 5
 else
 some 0
def EU [Ev] (t:Types) (p:Pattern) (h_2:AY):Option Int:=
 (DT t p).bind fun x12=>
 if (!decide (x12=0))=true then
 some x12
 else
 (HZ t h_2).bind fun x19=>
 some x19.2
def EW (x_0:Term) (BB:List Int):Option Int:=
 if (decide (x_0.Var<0))=true then
 some x_0.Add
 else
 (AH BB x_0.Var).bind fun x13=>
 some (AI (x13+x_0.Add))
def IY (a b c:Int):Option (Int × Int):=if (0<=a∧a<18446744073709551616)∧(0<=b∧b<18446744073709551616)∧0<=c∧c<=1 then some ((a+b+c) % 18446744073709551616,(a+b+c) / 18446744073709551616) else none
def HH (a:Int) (b:Int):Option (Int × Int):=
 (IY (IntKind.u64.wrap a) (IntKind.u64.wrap b) 0).bind fun x13=>
 (Kw .i64 .shr a 63).bind fun x17=>
 (Kw .i64 .shr b 63).bind fun x19=>
 some (AI ((AI (x17+x19))+(AI x13.2)),x13.1)
def FJ (t:Term) (c0:List Int):Option (Int × Int × Bool):=
 if (decide (t.Var=(-1)))=true then
 (HH 0 t.Add).bind fun x17=>
 some (x17.1,x17.2,true)
 else
 if ((decide (t.Var<0))||(decide ((c0.length:Int)<=t.Var)))=true then
 some (0,0,false)
 else
 (AH c0 t.Var).bind fun x37=>
 (HH x37 t.Add).bind fun x41=>
 some (x41.1,x41.2,true)
def Lg (vals:List Int):Option Int:=
 thenR (forR (ρ:=Int) (fun (i0:Int) (_:Unit)=>
 (AH vals i0).bind fun x10=>
 if (!decide (x10=0))=true then
 some (.ret x10)
 else
 some (.next ())) 0 (vals.length:Int) ()) (fun _=>
 some 0) (fun v0=>some v0)
def Jg (x_0:Int):Option Bool:=
 some (!decide (x_0=x_0))
def IP (x_0:Int) (y:Int):Option Int:=
 (Jg x_0).bind fun x8=>
 (Jg y).bind fun x10=>
 if x8=true then
 if x10=true then
 some 0
 else
 some (-1)
 else
 if x10=true then
 some 1
 else
 if (decide (x_0<y))=true then
 some (-1)
 else
 if (decide (y<x_0))=true then
 some 1
 else
 some 0
def JN (x_0:Int):Option Bool:=
 some (!decide (x_0=x_0))
def IQ (x_0:Int) (y:Int):Option Int:=
 (JN x_0).bind fun x8=>
 (JN y).bind fun x10=>
 if x8=true then
 if x10=true then
 some 0
 else
 some (-1)
 else
 if x10=true then
 some 1
 else
 if (decide (x_0<y))=true then
 some (-1)
 else
 if (decide (y<x_0))=true then
 some 1
 else
 some 0
def GV (x_0:Test) (BB:List Int):Option Bool:=
 (FJ x_0.Left BB).bind fun x18=>
 (FJ x_0.Right BB).bind fun x26=>
 if ((!x18.2.2)||(!x26.2.2))=true then
 some false
 else
 (IP x18.1 x26.1).bind fun x38=>
 (IQ x18.2.1 x26.2.1).bind fun x41=>
 (Lg [x38,x41]).bind fun x43=>
 some (((decide (x_0.Kind=1))&&(decide (x43<=0)))||((decide (x_0.Kind=2))&&(decide (x43=0))))
def IL (p:Pattern) (h_1:AY) (m:Morphism):Option (List Int × Int):=
 (J8 p.Vars 0).bind fun x18=>
 (J8 p.Vars false).bind fun x21=>
 thenR (forR (ρ:=(List Int × Int)) (fun (i0:Int) (s0:List Int × List Bool)=>
 (AH p.Slots i0).bind fun x27=>
 (AH m.Nodes x27.Node).bind fun x35=>
 (AH h_1.Values x35).bind fun x37=>
 (AH x37 x27.Attr).bind fun x41=>
 (if (decide (0<=x27.Term.Var))=true then ((AH s0.2 x27.Term.Var).bind fun x51=>
 some (!x51)) else some false).bind fun x54=>
 if x54=true then
 (AH s0.1 x27.Term.Var).bind fun x64=>
 (AH s0.2 x27.Term.Var).bind fun x65=>
 (EW x27.Term (CP s0.1 x27.Term.Var (AI (x41 - x27.Term.Add)))).bind fun x69=>
 if (!decide (x69=x41))=true then
 some (.ret ([],11))
 else
 some (.next (CP s0.1 x27.Term.Var (AI (x41 - x27.Term.Add)),CP s0.2 x27.Term.Var true))
 else
 (EW x27.Term s0.1).bind fun x69=>
 if (!decide (x69=x41))=true then
 some (.ret ([],11))
 else
 some (.next (s0.1,s0.2))) 0 (p.Slots.length:Int) (x18,x21)) (fun s0=>
 thenR (forR (ρ:=(List Int × Int)) (fun (i2:Int) (_:Unit)=>
 (AH p.Tests i2).bind fun x78=>
 (GV x78 s0.1).bind fun x82=>
 if (!x82)=true then
 some (.ret ([],16))
 else
 some (.next ())) 0 (p.Tests.length:Int) ()) (fun _=>
 some (s0.1,0)) (fun v2=>some v2)) (fun v0=>some v0)
def ET [Ev] (t:Types) (p:Pattern) (h_2:AY) (m:Morphism):Option (List Int × Int):=
 (EU t p h_2).bind fun x15=>
 if (!decide (x15=0))=true then
 some ([],x15)
 else
 (F7 t p.Graph h_2.Graph m false).bind fun x25=>
 if (!decide (x25=0))=true then
 some ([],x25)
 else
 (IL p h_2 m).bind fun x32=>
 some (x32.1,x32.2)
def D4 [Ev] (t:Types) (p:Pattern) (c:AA) (h_3:AY) (m:AL) (injective:Bool):Option Int:=
 (DU t p c).bind fun x22=>
 if (!decide (x22=0))=true then
 some x22
 else
 (HZ t h_3).bind fun x29=>
 if (!decide (x29.2=0))=true then
 some x29.2
 else
 (F7 t p.Graph h_3.Graph m.Morphism injective).bind fun x43=>
 if (!decide (x43=0))=true then
 some x43
 else
 (ET t p h_3 m.Morphism).bind fun x53=>
 if (!decide (x53.2=0))=true then
 some x53.2
 else
 (FE x53.1 m.Vars).bind fun x62=>
 if (!x62)=true then
 some 11
 else
 some 0
def LE (k:Int) (c0:Int):Option Bool:=
 some ((decide (k<(-1)))||(decide (c0<=k)))
def G0 [Ev] (l:List Int) (n:Int):Option Int:=
 (BI l (fun y0=>LE y0 n)).bind fun x7=>
 if x7=true then
 some 6
 else
 some 0
def IA (l:List Int) (i_1:Int):Option Int:=
 (Ui l).bind fun x6=>
 (AH l i_1).bind fun x9=>
 some x9
def D7 (f:AG) (i_1:Int) (k:Int):Option Bool:=
 (AH f.p.Edges i_1).bind fun x15=>
 (IA f.partial_.Edges i_1).bind fun x23=>
 if ((decide (0<=x23))&&(!decide (x23=k)))=true then
 some false
 else
 (AH f.g.Edges k).bind fun x37=>
 (AH f.nodes x15.From).bind fun x47=>
 (AH f.nodes x15.To).bind fun x55=>
 some (decide (x37=(B6.mk x15.Type' x47 x55)))
def CI (f:AG):Option Bool:=
 thenR (forR (ρ:=Bool) (fun (i0:Int) (_:Unit)=>
 (AH f.p.Edges i0).bind fun x23=>
 if (!decide ((max x23.From x23.To)=(AI ((f.nodes.length:Int) - 1))))=true then
 some (.next ())
 else
 thenR (forR (ρ:=Bool) (fun (i2:Int) (s2:Bool)=>
 (D7 f i0 i2).bind fun x44=>
 if x44=true then
 some (.brk true)
 else
 some (.next s2)) 0 (f.g.Edges.length:Int) false) (fun s2=>
 if (!s2)=true then
 some (.ret false)
 else
 some (.next ())) (fun v2=>some (.ret v2))) 0 (f.p.Edges.length:Int) ()) (fun _=>
 some true) (fun v0=>some v0)
def A2 [Ev]:Nat->AG->Option AG
 | 0,_=>none
 | n+1,f=>
  (if (decide ((f.out.length:Int)=f.most))=true then
  some f
  else
  if (decide ((f.nodes.length:Int)<(f.p.Nodes.length:Int)))=true then
  (forA (fun (i1:Int) (s1:AG)=>
  (AH f.g.Nodes i1).bind fun x66=>
  (IA s1.partial_.Nodes (f.nodes.length:Int)).bind fun x74=>
  (if ((decide (0<=x74))&&(!decide (x74=i1)))=true then some true else ((AH s1.p.Nodes (f.nodes.length:Int)).bind fun x93=>
  (AH s1.is x93).bind fun x95=>
  (AH x95 x66).bind fun x98=>
  some (!x98))).bind fun x101=>
  (if x101=true then some true else ((if s1.injective=true then ((DC s1.nodes i1).bind fun x113=>
  some (x113)) else some false).bind fun x114=>
  some (x114))).bind fun x115=>
  if x115=true then
  some s1
  else
  (A3 s1.nodes [i1]).bind fun x123=>
  (CI (AG.mk s1.p s1.g s1.is s1.partial_ s1.injective s1.most x123 s1.edges s1.out)).bind fun x127=>
  if x127=true then
  (A2 n (AG.mk s1.p s1.g s1.is s1.partial_ s1.injective s1.most x123 s1.edges s1.out)).bind fun x129=>
  (slc x129.nodes 0 (f.nodes.length:Int)).bind fun x136=>
  some (AG.mk x129.p x129.g x129.is x129.partial_ x129.injective x129.most x136 x129.edges x129.out)
  else
  (slc x123 0 (f.nodes.length:Int)).bind fun x136=>
  some (AG.mk s1.p s1.g s1.is s1.partial_ s1.injective s1.most x136 s1.edges s1.out)) 0 (f.g.Nodes.length:Int) f).bind fun s1=>
  some s1
  else
  if (decide ((f.edges.length:Int)<(f.p.Edges.length:Int)))=true then
  (forA (fun (i3:Int) (s3:AG)=>
  (D7 s3 (f.edges.length:Int) i3).bind fun x170=>
  (if (!x170)=true then some true else ((if s3.injective=true then ((DC s3.edges i3).bind fun x183=>
  some (x183)) else some false).bind fun x184=>
  some (x184))).bind fun x185=>
  if x185=true then
  some s3
  else
  (A3 s3.edges [i3]).bind fun x193=>
  (A2 n (AG.mk s3.p s3.g s3.is s3.partial_ s3.injective s3.most s3.nodes x193 s3.out)).bind fun x197=>
  (slc x197.edges 0 (f.edges.length:Int)).bind fun x204=>
  some (AG.mk x197.p x197.g x197.is x197.partial_ x197.injective x197.most x197.nodes x204 x197.out)) 0 (f.g.Edges.length:Int) f).bind fun s3=>
  some s3
  else
  (slices_Clone_int f.nodes).bind fun x17=>
  (slices_Clone_int f.edges).bind fun x22=>
  (A3 f.out [Morphism.mk x17 x22]).bind fun x25=>
  some (AG.mk f.p f.g f.is f.partial_ f.injective f.most f.nodes f.edges x25)).bind fun w1=>
  some w1
def FG [Ev] (f:AG):Option AG:=J7 fun n=>A2 n f
def HD [Ev] (t:Types) (p:Graph) (g:Graph) (partial_:Morphism) (injective:Bool) (most:Int):Option (List Morphism):=
 (F8 t).bind fun x17=>
 (FG (AG.mk p g x17 partial_ injective most [] [] [])).bind fun x24=>
 some x24.out
def JV [Ev] (t:Types) (p:Graph) (g:Graph) (partial_:Morphism) (injective:Bool):Option (List Morphism × Int):=
 (HD t p g partial_ injective 5001).bind fun x18=>
 if (decide (5000<(x18.length:Int)))=true then
 some ([],3)
 else
 some (x18,0)
def GI [Ev] (t:Types) (p:Graph) (g:Graph) (partial_:Morphism) (injective:Bool):Option (List Morphism × Int):=
 (F9 t p g).bind fun x18=>
 if (!decide (x18=0))=true then
 some ([],x18)
 else
 if ((!decide ((partial_.Nodes.length:Int)=(p.Nodes.length:Int)))||(!decide ((partial_.Edges.length:Int)=(p.Edges.length:Int))))=true then
 some ([],20)
 else
 (G0 partial_.Nodes (g.Nodes.length:Int)).bind fun x43=>
 if (!decide (x43=0))=true then
 some ([],x43)
 else
 (G0 partial_.Edges (g.Edges.length:Int)).bind fun x52=>
 if (!decide (x52=0))=true then
 some ([],x52)
 else
 (JV t p g partial_ injective).bind fun x61=>
 some (x61.1,x61.2)
def HV (l:List Int) (n:Int):Option (List Int):=if l.length=1∧0<=n∧n<=4096 then some (List.replicate n.toNat (l.headD 0)) else none
def GU (n:Int) (AB:List Int) (images:List Int):Option (List Int):=
 (HV [(-1)] n).bind fun x12=>
 (forA (fun (i0:Int) (s0:List Int)=>
 (AH AB i0).bind fun x18=>
 (AH images i0).bind fun x24=>
 (AH s0 x18).bind fun x26=>
 some (CP s0 x18 x24)) 0 (AB.length:Int) x12).bind fun s0=>
 some s0
def GT (x_0:Term) (BB:List Int):Option (Int × Int):=
 (C8 x_0.Var (-1) (AI ((BB.length:Int) - 1))).bind fun x11=>
 if (!x11)=true then
 some (0,6)
 else
 (EW x_0 BB).bind fun x15=>
 some (x15,0)
def EC (s_0:AR) (q:Pattern) (m:Morphism) (given:List Int):Option (List Int × Bool):=
 (slices_Clone_int given).bind fun x22=>
 (RM x22 (AI (q.Vars - (given.length:Int))) 0).bind fun x28=>
 (J8 q.Vars false).bind fun x31=>
 (forA (fun (i0:Int) (s0:List Bool)=>
 (AH s0 i0).bind fun x39=>
 some (CP s0 i0 true)) 0 (given.length:Int) x31).bind fun s0=>
 thenR (forR (ρ:=(List Int × Bool)) (fun (i2:Int) (s2:List Int × List Bool)=>
 (AH q.Slots i2).bind fun x46=>
 (AH m.Nodes x46.Node).bind fun x55=>
 (AH s_0.h.Values x55).bind fun x57=>
 (AH x57 x46.Attr).bind fun x61=>
 (if (decide (0<=x46.Term.Var))=true then ((AH s2.2 x46.Term.Var).bind fun x71=>
 some (!x71)) else some false).bind fun x74=>
 if x74=true then
 (AH s2.1 x46.Term.Var).bind fun x84=>
 (AH s2.2 x46.Term.Var).bind fun x85=>
 (GT x46.Term (CP s2.1 x46.Term.Var (AI (x61 - x46.Term.Add)))).bind fun x90=>
 if ((!decide (x90.2=0))||(!decide (x90.1=x61)))=true then
 some (.ret ([],false))
 else
 some (.next (CP s2.1 x46.Term.Var (AI (x61 - x46.Term.Add)),CP s2.2 x46.Term.Var true))
 else
 (GT x46.Term s2.1).bind fun x90=>
 if ((!decide (x90.2=0))||(!decide (x90.1=x61)))=true then
 some (.ret ([],false))
 else
 some (.next (s2.1,s2.2))) 0 (q.Slots.length:Int) (x28,s0)) (fun s2=>
 thenR (forR (ρ:=(List Int × Bool)) (fun (i4:Int) (_:Unit)=>
 (AH q.Tests i4).bind fun x106=>
 (GV x106 s2.1).bind fun x110=>
 if (!x110)=true then
 some (.ret ([],false))
 else
 some (.next ())) 0 (q.Tests.length:Int) ()) (fun _=>
 some (s2.1,true)) (fun v4=>some v4)) (fun v2=>some v2)
def BW [Ev] (s_0:AR) (c:AA) (m:AL):Option (List AL × Int):=
 (GU (c.Pattern.Graph.Nodes.length:Int) c.Map.Nodes m.Morphism.Nodes).bind fun x29=>
 (GU (c.Pattern.Graph.Edges.length:Int) c.Map.Edges m.Morphism.Edges).bind fun x39=>
 (GI s_0.t c.Pattern.Graph s_0.h.Graph (Morphism.mk x29 x39) s_0.injective).bind fun x51=>
 if (!decide (x51.2=0))=true then
 some ([],x51.2)
 else
 (forA (fun (i0:Int) (s0:List AL)=>
 (AH x51.1 i0).bind fun x61=>
 (EC s_0 c.Pattern x61 m.Vars).bind fun x70=>
 if x70.2=true then
 (A3 s0 [AL.mk x61 x70.1]).bind fun x79=>
 some x79
 else
 some s0) 0 (x51.1.length:Int) []).bind fun s0=>
 some (s0,0)
mutual
def AX [Ev]:Nat->AR->AA->AL->Option (A4 × Int)
 | 0,_,_,_=>none
 | n+1,s_0,c,m=>
  if (decide (c.Kind=2))=true then
  (AH c.Kids 0).bind fun x27=>
  (AX n s_0 x27 m).bind fun x30=>
  if (decide (x30.2=0))=true then
  some (A4.mk 0 (AL.mk (Morphism.mk [] []) []) [],10)
  else
  if (decide (x30.2=10))=true then
  some (A4.mk 0 (AL.mk (Morphism.mk [] []) []) [],0)
  else
  some (A4.mk 0 (AL.mk (Morphism.mk [] []) []) [],x30.2)
  else
  if (decide (c.Kind=3))=true then
  thenR (forR (ρ:=(A4 × Int)) (fun (i2:Int) (s2:A4 × A4)=>
  (AH c.Kids i2).bind fun x49=>
  (AX n s_0 x49 m).bind fun x55=>
  if (!decide (x55.2=0))=true then
  some (.ret (A4.mk 0 (AL.mk (Morphism.mk [] []) []) [],x55.2))
  else
  (A3 s2.2.Kids [x55.1]).bind fun x66=>
  some (.next (s2.1,A4.mk s2.2.Choice s2.2.Match x66))) 0 (c.Kids.length:Int) (A4.mk 0 (AL.mk (Morphism.mk [] []) []) [],A4.mk 0 (AL.mk (Morphism.mk [] []) []) [])) (fun s2=>
  some (s2.2,0)) (fun v2=>some v2)
  else
  if (decide (c.Kind=4))=true then
  thenR (forR (ρ:=(A4 × Int)) (fun (i4:Int) (s4:A4)=>
  (AH c.Kids i4).bind fun x78=>
  (AX n s_0 x78 m).bind fun x84=>
  if (decide (x84.2=0))=true then
  some (.ret (A4.mk i4 (AL.mk (Morphism.mk [] []) []) [x84.1],0))
  else
  if (!decide (x84.2=10))=true then
  some (.ret (A4.mk 0 (AL.mk (Morphism.mk [] []) []) [],x84.2))
  else
  some (.next s4)) 0 (c.Kids.length:Int) (A4.mk 0 (AL.mk (Morphism.mk [] []) []) [])) (fun s4=>
  some (A4.mk 0 (AL.mk (Morphism.mk [] []) []) [],10)) (fun v4=>some v4)
  else
  if (decide (c.Kind=5))=true then
  (BH n s_0 c m).bind fun x104=>
  some (x104.1,x104.2)
  else
  some (A4.mk 0 (AL.mk (Morphism.mk [] []) []) [],0)
def BH [Ev]:Nat->AR->AA->AL->Option (A4 × Int)
 | 0,_,_,_=>none
 | n+1,s_0,c,m=>
  (BW s_0 c m).bind fun x18=>
  if (!decide (x18.2=0))=true then
  some (A4.mk 0 (AL.mk (Morphism.mk [] []) []) [],x18.2)
  else
  thenR (forR (ρ:=(A4 × Int)) (fun (i0:Int) (s0:A4)=>
  (AH x18.1 i0).bind fun x29=>
  (AH c.Kids 0).bind fun x35=>
  (AX n s_0 x35 x29).bind fun x38=>
  if (decide (x38.2=0))=true then
  some (.ret (A4.mk 0 x29 [x38.1],0))
  else
  if (!decide (x38.2=10))=true then
  some (.ret (A4.mk 0 (AL.mk (Morphism.mk [] []) []) [],x38.2))
  else
  some (.next s0)) 0 (x18.1.length:Int) (A4.mk 0 (AL.mk (Morphism.mk [] []) []) [])) (fun s0=>
  some (A4.mk 0 (AL.mk (Morphism.mk [] []) []) [],10)) (fun v0=>some v0)
end
def DM [Ev] (s_0:AR) (c:AA) (m:AL):Option (A4 × Int):=J7 fun n=>AX n s_0 c m
def M3 [Ev] (s_0:AR) (c:AA) (m:AL):Option (A4 × Int):=J7 fun n=>BH n s_0 c m
def DQ [Ev] (t:Types) (p:Pattern) (c:AA) (h_3:AY) (m:AL) (injective:Bool):Option (A4 × Int):=
 (D4 t p c h_3 m injective).bind fun x21=>
 if (!decide (x21=0))=true then
 some (A4.mk 0 (AL.mk (Morphism.mk [] []) []) [],x21)
 else
 (DM (AR.mk t h_3 injective) c m).bind fun x32=>
 some (x32.1,x32.2)
def BU [Ev] (t:Types) (p:Pattern) (c:AA) (h_3:AY) (m:AL) (injective:Bool):Option (Bool × Int):=
 (DQ t p c h_3 m injective).bind fun x23=>
 if (decide (x23.2=10))=true then
 some (false,0)
 else
 some (decide (x23.2=0),x23.2)
def E2 (m:AL):Option Bool:=
 some (decide ((AI ((AI ((m.Morphism.Nodes.length:Int)+(m.Morphism.Edges.length:Int)))+(m.Vars.length:Int)))=0))
def D0 [Ev] (s_0:List AL) (f:AL->Option Bool):Option Int:=
 thenR (forR (ρ:=Int) (fun (i0:Int) (_:Unit)=>
 (AH s_0 i0).bind fun x14=>
 (f x14).bind fun x16=>
 if x16=true then
 some (.ret i0)
 else
 some (.next ())) 0 (s_0.length:Int) ()) (fun _=>
 some (-1)) (fun v0=>some v0)
def DN [Ev] (s_0:List AL) (f:AL->Option Bool):Option Bool:=
 (D0 s_0 f).bind fun x7=>
 some (decide (0<=x7))
def NA (a:Morphism) (b:Morphism):Option Bool:=
 (FE a.Nodes b.Nodes).bind fun x9=>
 (if x9=true then ((FE a.Edges b.Edges).bind fun x15=>
 some (x15)) else some false).bind fun x16=>
 some x16
def J2 (a:AL) (b:AL):Option Bool:=
 (NA a.Morphism b.Morphism).bind fun x9=>
 (if x9=true then ((FE a.Vars b.Vars).bind fun x15=>
 some (x15)) else some false).bind fun x16=>
 some x16
def HY (x_0:AL) (c0:A4):Option Bool:=
 (J2 x_0 c0.Match).bind fun x7=>
 some x7
def BR [Ev]:Nat->AR->AA->AL->A4->Option Bool
 | 0,_,_,_,_=>none
 | n+1,s_0,c,m,w=>
  if (decide (c.Kind=1))=true then
  (if ((decide ((w.Kids.length:Int)=0))&&(decide (w.Choice=0)))=true then ((E2 w.Match).bind fun x33=>
  some (x33)) else some false).bind fun x34=>
  some x34
  else
  if (decide (c.Kind=2))=true then
  (AH c.Kids 0).bind fun x41=>
  (DM s_0 x41 m).bind fun x44=>
  (if ((decide ((w.Kids.length:Int)=0))&&(decide (w.Choice=0)))=true then ((E2 w.Match).bind fun x57=>
  some (x57)) else some false).bind fun x58=>
  some (x58&&(decide (x44.2=10)))
  else
  if (decide (c.Kind=3))=true then
  (if ((!decide ((w.Kids.length:Int)=(c.Kids.length:Int)))||(!decide (w.Choice=0)))=true then some true else ((E2 w.Match).bind fun x78=>
  some (!x78))).bind fun x80=>
  if x80=true then
  some false
  else
  thenR (forR (ρ:=Bool) (fun (i1:Int) (_:Unit)=>
  (AH c.Kids i1).bind fun x87=>
  (AH w.Kids i1).bind fun x95=>
  (BR n s_0 x87 m x95).bind fun x97=>
  if (!x97)=true then
  some (.ret false)
  else
  some (.next ())) 0 (c.Kids.length:Int) ()) (fun _=>
  some true) (fun v1=>some v1)
  else
  if (decide (c.Kind=4))=true then
  (if (((decide ((w.Kids.length:Int)=1))&&(decide (0<=w.Choice)))&&(decide (w.Choice<(c.Kids.length:Int))))=true then ((E2 w.Match).bind fun x120=>
  some (x120)) else some false).bind fun x121=>
  (if x121=true then ((AH c.Kids w.Choice).bind fun x128=>
  (AH w.Kids 0).bind fun x133=>
  (BR n s_0 x128 m x133).bind fun x135=>
  some (x135)) else some false).bind fun x136=>
  some x136
  else
  if ((!decide ((w.Kids.length:Int)=1))||(!decide (w.Choice=0)))=true then
  some false
  else
  (BW s_0 c m).bind fun x148=>
  (if (!decide (x148.2=0))=true then some true else ((DN x148.1 (fun y0=>HY y0 w)).bind fun x156=>
  some (!x156))).bind fun x158=>
  if x158=true then
  some false
  else
  (AH c.Kids 0).bind fun x162=>
  (AH w.Kids 0).bind fun x168=>
  (BR n s_0 x162 w.Match x168).bind fun x170=>
  some x170
def GM [Ev] (s_0:AR) (c:AA) (m:AL) (w:A4):Option Bool:=J7 fun n=>BR n s_0 c m w
def DX [Ev] (t:Types) (p:Pattern) (c:AA) (h_3:AY) (m:AL) (injective:Bool) (w:A4):Option Bool:=
 (D4 t p c h_3 m injective).bind fun x21=>
 (if (decide (x21=0))=true then ((GM (AR.mk t h_3 injective) c m w).bind fun x31=>
 some (x31)) else some false).bind fun x32=>
 some x32
def NB :Option Types:=
 some (Types.mk [BE.mk (⟨#[65,99,99,111,117,110,116]⟩:ByteArray) (-1) true [Attr.mk (⟨#[98,97,108,97,110,99,101]⟩:ByteArray) (-1000) 1000 []],BE.mk (⟨#[67,97,115,104]⟩:ByteArray) 0 false [],BE.mk (⟨#[76,111,97,110]⟩:ByteArray) 0 false [Attr.mk (⟨#[115,116,97,116,101]⟩:ByteArray) 0 1 [(⟨#[111,112,101,110]⟩:ByteArray),(⟨#[99,108,111,115,101,100]⟩:ByteArray)]],BE.mk (⟨#[80,101,114,115,111,110]⟩:ByteArray) (-1) false []] [CJ.mk (⟨#[111,119,110,115]⟩:ByteArray) 3 0 0 (-1) 1 1,CJ.mk (⟨#[112,97,121,115]⟩:ByteArray) 1 1 0 (-1) 0 (-1)])
def M8 :Option KY:=
 (some (AA.mk 5 [AA.mk 1 [] (Morphism.mk [] []) (Pattern.mk (Graph.mk [] []) [] 0 [])] (Morphism.mk [0,1] [0]) (Pattern.mk (Graph.mk [3,0,0] [B6.mk 0 0 1,B6.mk 0 0 2]) [CT.mk 1 0 (Term.mk 0 0),CT.mk 2 0 (Term.mk 1 0)] 2 [Test.mk 1 (Term.mk 0 0) (Term.mk 1 0)]))).bind fun x33=>
 some (KY.mk (Pattern.mk (Graph.mk [3,0] [B6.mk 0 0 1]) [CT.mk 1 0 (Term.mk 0 0)] 1 []) x33)
def FR [Ev] :Option Bool:=
 (NB).bind fun x10=>
 (M8).bind fun x11=>
 (DQ x10 x11.P x11.C (AY.mk (Graph.mk [3,1,1] [B6.mk 0 0 1,B6.mk 0 0 2]) [[],[10],[5]]) (AL.mk (Morphism.mk [0,2] [1]) [5]) true).bind fun x39=>
 (BU x10 x11.P x11.C (AY.mk (Graph.mk [3,1,1] [B6.mk 0 0 1,B6.mk 0 0 2]) [[],[10],[5]]) (AL.mk (Morphism.mk [0,1] [0]) [10]) true).bind fun x50=>
 (if ((((decide (x39.2=0))&&(decide (x50.2=0)))&&(!x50.1))&&(decide ((x39.1.Match.Vars.length:Int)=2)))=true then ((AH x39.1.Match.Vars 1).bind fun x74=>
 some (decide (x74=10))) else some false).bind fun x77=>
 (if x77=true then ((DX x10 x11.P x11.C (AY.mk (Graph.mk [3,1,1] [B6.mk 0 0 1,B6.mk 0 0 2]) [[],[10],[5]]) (AL.mk (Morphism.mk [0,2] [1]) [5]) true x39.1).bind fun x87=>
 some (x87)) else some false).bind fun x88=>
 some x88
def G9 [Ev]:Nat->Types->Int->Option (List Attr)
 | 0,_,_=>none
 | n+1,t,a=>
  if (decide (a<0))=true then
  some []
  else
  (AH t.Nodes a).bind fun x12=>
  (G9 n t x12.Parent).bind fun x15=>
  (A3 [] x15).bind fun x16=>
  (AH t.Nodes a).bind fun x20=>
  (A3 x16 x20.Attrs).bind fun x23=>
  some x23
def Mj [Ev] (t:Types) (a:Int):Option (List Attr):=J7 fun n=>G9 n t a
def D2 (n:Int) (low:Int) (high:Int):Option Bool:=
 some ((decide (low<=n))&&(decide (n<=high)))
def NQ (t:E7):Option ByteArray:=
 if (decide (t.Kind=3))=true then
 (Qq (⟨#[34]⟩:ByteArray) t.Text).bind fun x8=>
 (Qq x8 (⟨#[34]⟩:ByteArray)).bind fun x9=>
 some x9
 else
 some t.Text
def KN (c:Int):Option Bool:=
 some (((decide (97<=c))&&(decide (c<=122)))||((decide (65<=c))&&(decide (c<=90))))
def Ip (c:Int):Option Bool:=
 some ((decide (48<=c))&&(decide (c<=57)))
def Mv [Ev] (s_0:ByteArray) (AB:Int) (digits:Bool):Option Int:=
 thenR (FB (ρ:=Int) (fun (s0:Int)=>
 (if (decide ((AI (AB+s0))<(s_0.size:Int)))=true then ((sidx s_0 (AI (AB+s0))).bind fun x19=>
 (Ip x19).bind fun x20=>
 (if x20=true then some true else ((if (!digits)=true then ((sidx s_0 (AI (AB+s0))).bind fun x29=>
 (KN x29).bind fun x30=>
 (if x30=true then some true else ((sidx s_0 (AI (AB+s0))).bind fun x36=>
 some (decide (x36=95)))).bind fun x38=>
 some (x38)) else some false).bind fun x39=>
 some (x39))).bind fun x40=>
 some (x40)) else some false).bind fun x41=>
 if x41=true then
 some (.next (AI (s0+1)))
 else
 some (.brk s0)) 0) (fun s0=>
 some s0) (fun v0=>some v0)
def KO [Ev] (s_0:ByteArray) (AB:Int):Option Int:=
 thenR (FB (ρ:=Int) (fun (s0:Int)=>
 if (decide ((AI (AB+s0))<(s_0.size:Int)))=true then
 (sidx s_0 (AI (AB+s0))).bind fun x19=>
 if (decide (x19=34))=true then
 some (.ret (AI (s0+1)))
 else
 if ((decide (x19<32))||(decide (126<x19)))=true then
 some (.ret 0)
 else
 some (.next (AI (s0+1)))
 else
 some (.brk s0)) 1) (fun s0=>
 some 0) (fun v0=>some v0)
def Mi :Option (List ByteArray):=
 some [(⟨#[45,62]⟩:ByteArray),(⟨#[60,61]⟩:ByteArray),(⟨#[62,61]⟩:ByteArray),(⟨#[61,61]⟩:ByteArray),(⟨#[33,61]⟩:ByteArray),(⟨#[123]⟩:ByteArray),(⟨#[125]⟩:ByteArray),(⟨#[40]⟩:ByteArray),(⟨#[41]⟩:ByteArray),(⟨#[91]⟩:ByteArray),(⟨#[93]⟩:ByteArray),(⟨#[44]⟩:ByteArray),(⟨#[59]⟩:ByteArray),(⟨#[58]⟩:ByteArray),(⟨#[61]⟩:ByteArray),(⟨#[43]⟩:ByteArray),(⟨#[45]⟩:ByteArray),(⟨#[42]⟩:ByteArray),(⟨#[60]⟩:ByteArray),(⟨#[62]⟩:ByteArray),(⟨#[33]⟩:ByteArray),(⟨#[38]⟩:ByteArray),(⟨#[124]⟩:ByteArray),(⟨#[46]⟩:ByteArray),(⟨#[63]⟩:ByteArray)]
def Mu [Ev] (s_0:ByteArray) (AB:Int):Option (E7 × Int × Int):=
 (sidx s_0 AB).bind fun x16=>
 (KN x16).bind fun x18=>
 (if x18=true then some true else ((Ip x16).bind fun x21=>
 some (x21))).bind fun x22=>
 if x22=true then
 (Ip x16).bind fun x26=>
 (Mv s_0 AB x26).bind fun x27=>
 (Ip x16).bind fun x29=>
 (if x29=true then
 some (2,9)
 else
 some (1,20)).bind fun w1=>
 if (decide (w1.2<x27))=true then
 some (E7.mk 0 (⟨#[]⟩:ByteArray) 0,0,3)
 else
 (sslc s_0 AB (AI (AB+x27))).bind fun x40=>
 some (E7.mk w1.1 x40 0,x27,0)
 else
 if (decide (x16=34))=true then
 (KO s_0 AB).bind fun x47=>
 if (decide (x47=0))=true then
 some (E7.mk 0 (⟨#[]⟩:ByteArray) 0,0,2)
 else
 if (decide (60<(AI (x47 - 2))))=true then
 some (E7.mk 0 (⟨#[]⟩:ByteArray) 0,0,3)
 else
 (sslc s_0 (AI (AB+1)) (AI ((AI (AB+x47)) - 1))).bind fun x62=>
 some (E7.mk 3 x62 0,x47,0)
 else
 (Mi).bind fun x65=>
 thenR (forR (ρ:=(E7 × Int × Int)) (fun (i0:Int) (s0:E7)=>
 (AH x65 i0).bind fun x75=>
 (if (decide ((AI (AB+(x75.size:Int)))<=(s_0.size:Int)))=true then ((AH x65 i0).bind fun x88=>
 (sslc s_0 AB (AI (AB+(x88.size:Int)))).bind fun x92=>
 (AH x65 i0).bind fun x95=>
 some (x92==x95)) else some false).bind fun x98=>
 if x98=true then
 (AH x65 i0).bind fun x101=>
 (AH x65 i0).bind fun x106=>
 some (.ret (E7.mk 4 x101 0,(x106.size:Int),0))
 else
 some (.next s0)) 0 (x65.length:Int) (E7.mk 0 (⟨#[]⟩:ByteArray) 0)) (fun s0=>
 some (E7.mk 0 (⟨#[]⟩:ByteArray) 0,0,2)) (fun v0=>some v0)
def Mh [Ev] (t:E7):Option Bool:=
 (NQ t).bind fun x8=>
 if (x8==(⟨#[]⟩:ByteArray))=true then
 some false
 else
 (Mu x8 0).bind fun x13=>
 some (((decide (x13.2.2=0))&&(decide (x13.2.1=(x8.size:Int))))&&(decide (x13.1.Kind=t.Kind)))
def G7 [Ev] (s_0:ByteArray):Option Bool:=
 (Mh (E7.mk 1 s_0 0)).bind fun x5=>
 some x5
def K3 [Ev] (l:List ByteArray):Option Int:=
 if (decide (20<(l.length:Int)))=true then
 some 3
 else
 thenR (forR (ρ:=Int) (fun (i0:Int) (_:Unit)=>
 (AH l i0).bind fun x16=>
 (G7 x16).bind fun x18=>
 if (!x18)=true then
 some (.ret 2)
 else
 thenR (forR (ρ:=Int) (fun (i2:Int) (_:Unit)=>
 (AH l i2).bind fun x27=>
 (AH l i0).bind fun x31=>
 if (x27==x31)=true then
 some (.ret 5)
 else
 some (.next ())) 0 i0 ()) (fun _=>
 some (.next ())) (fun v2=>some (.ret v2))) 0 (l.length:Int) ()) (fun _=>
 some 0) (fun v0=>some v0)
def Ia [Ev] (a:Attr):Option Int:=
 if (decide ((a.Names.length:Int)=0))=true then
 (D2 a.Low (-1000000) 1000000).bind fun x10=>
 (if (!x10)=true then some true else ((D2 a.High a.Low 1000000).bind fun x17=>
 some (!x17))).bind fun x19=>
 if x19=true then
 some 6
 else
 some 0
 else
 (K3 a.Names).bind fun x22=>
 if (!decide (x22=0))=true then
 some x22
 else
 if ((!decide (a.Low=0))||(!decide (a.High=(AI ((a.Names.length:Int) - 1)))))=true then
 some 6
 else
 some 0
def Lz [Ev] (t:Types) (i_1:Int):Option Int:=
 (AH t.Nodes i_1).bind fun x14=>
 (G7 x14.Name).bind fun x18=>
 if (!x18)=true then
 some 2
 else
 thenR (forR (ρ:=Int) (fun (i0:Int) (_:Unit)=>
 (AH t.Nodes i0).bind fun x28=>
 if (x28.Name==x14.Name)=true then
 some (.ret 5)
 else
 some (.next ())) 0 i_1 ()) (fun _=>
 (D2 x14.Parent (-1) (AI (i_1 - 1))).bind fun x38=>
 if (!x38)=true then
 some 6
 else
 (Mj t i_1).bind fun x42=>
 if ((decide (4<(x14.Attrs.length:Int)))||(decide (8<(x42.length:Int))))=true then
 some 3
 else
 thenR (forR (ρ:=Int) (fun (i2:Int) (_:Unit)=>
 (AH x42 i2).bind fun x66=>
 (G7 x66.Name).bind fun x69=>
 if (!x69)=true then
 some (.ret 2)
 else
 thenR (forR (ρ:=Int) (fun (i4:Int) (_:Unit)=>
 (AH x42 i4).bind fun x78=>
 (AH x42 i2).bind fun x83=>
 if (x78.Name==x83.Name)=true then
 some (.ret 5)
 else
 some (.next ())) 0 i2 ()) (fun _=>
 (AH x42 i2).bind fun x89=>
 (Ia x89).bind fun x91=>
 if (!decide (x91=0))=true then
 some (.ret x91)
 else
 some (.next ())) (fun v4=>some (.ret v4))) (AI ((x42.length:Int) - (x14.Attrs.length:Int))) (x42.length:Int) ()) (fun _=>
 some 0) (fun v2=>some v2)) (fun v0=>some v0)
def Jr (low:Int) (high:Int):Option Bool:=
 (D2 low 0 40).bind fun x6=>
 (if x6=true then ((if (decide (high=(-1)))=true then some true else ((D2 high low 40).bind fun x13=>
 some (x13))).bind fun x14=>
 some (x14)) else some false).bind fun x15=>
 some x15
def Ly [Ev] (t:Types) (i_1:Int):Option Int:=
 (AH t.Edges i_1).bind fun x11=>
 (G7 x11.Name).bind fun x15=>
 if (!x15)=true then
 some 2
 else
 thenR (forR (ρ:=Int) (fun (i0:Int) (_:Unit)=>
 (AH t.Edges i0).bind fun x25=>
 if (x25.Name==x11.Name)=true then
 some (.ret 5)
 else
 some (.next ())) 0 i_1 ()) (fun _=>
 (D2 x11.From 0 (AI ((t.Nodes.length:Int) - 1))).bind fun x38=>
 (if (!x38)=true then some true else ((D2 x11.To 0 (AI ((t.Nodes.length:Int) - 1))).bind fun x44=>
 some (!x44))).bind fun x46=>
 (if x46=true then some true else ((Jr x11.OutLow x11.OutHigh).bind fun x52=>
 some (!x52))).bind fun x54=>
 (if x54=true then some true else ((Jr x11.InLow x11.InHigh).bind fun x60=>
 some (!x60))).bind fun x62=>
 if x62=true then
 some 6
 else
 some 0) (fun v0=>some v0)
def Ht [Ev] (t:Types):Option (ByteArray × Int):=
 if (decide ((t.Nodes.length:Int)=0))=true then
 some ((⟨#[]⟩:ByteArray),7)
 else
 if ((decide (12<(t.Nodes.length:Int)))||(decide (20<(t.Edges.length:Int))))=true then
 some ((⟨#[]⟩:ByteArray),3)
 else
 thenR (forR (ρ:=(ByteArray × Int)) (fun (i0:Int) (_:Unit)=>
 (Lz t i0).bind fun x31=>
 if (!decide (x31=0))=true then
 (AH t.Nodes i0).bind fun x37=>
 some (.ret (x37.Name,x31))
 else
 some (.next ())) 0 (t.Nodes.length:Int) ()) (fun _=>
 thenR (forR (ρ:=(ByteArray × Int)) (fun (i2:Int) (_:Unit)=>
 (Ly t i2).bind fun x50=>
 if (!decide (x50=0))=true then
 (AH t.Edges i2).bind fun x56=>
 some (.ret (x56.Name,x50))
 else
 some (.next ())) 0 (t.Edges.length:Int) ()) (fun _=>
 some ((⟨#[]⟩:ByteArray),0)) (fun v2=>some v2)) (fun v0=>some v0)
def Kb (n:Int):Option Bool:=
 some ((decide (0<=n))&&(decide (n<=99)))
def Mk (e:B6) (nodes:Int):Option Bool:=
 (Kb e.Type').bind fun x7=>
 some ((((x7&&(decide (0<=e.From)))&&(decide (e.From<nodes)))&&(decide (0<=e.To)))&&(decide (e.To<nodes)))
def FT (g:Graph):Option Int:=
 if ((decide (40<(g.Nodes.length:Int)))||(decide (80<(g.Edges.length:Int))))=true then
 some 3
 else
 thenR (forR (ρ:=Int) (fun (i0:Int) (_:Unit)=>
 (AH g.Nodes i0).bind fun x25=>
 (Kb x25).bind fun x27=>
 if (!x27)=true then
 some (.ret 6)
 else
 some (.next ())) 0 (g.Nodes.length:Int) ()) (fun _=>
 thenR (forR (ρ:=Int) (fun (i2:Int) (_:Unit)=>
 (AH g.Edges i2).bind fun x39=>
 (Mk x39 (g.Nodes.length:Int)).bind fun x44=>
 if (!x44)=true then
 some (.ret 6)
 else
 some (.next ())) 0 (g.Edges.length:Int) ()) (fun _=>
 some 0) (fun v2=>some v2)) (fun v0=>some v0)
def Ir (t:Types) (g:Graph):Option Bool:=
 thenR (forR (ρ:=Bool) (fun (i0:Int) (_:Unit)=>
 (AH g.Nodes i0).bind fun x17=>
 (if (decide (x17<0))=true then some true else ((AH g.Nodes i0).bind fun x24=>
 some (decide ((t.Nodes.length:Int)<=x24)))).bind fun x30=>
 if x30=true then
 some (.ret false)
 else
 some (.next ())) 0 (g.Nodes.length:Int) ()) (fun _=>
 thenR (forR (ρ:=Bool) (fun (i2:Int) (_:Unit)=>
 (AH g.Edges i2).bind fun x41=>
 (if (decide (x41.Type'<0))=true then some true else ((AH g.Edges i2).bind fun x49=>
 some (decide ((t.Edges.length:Int)<=x49.Type')))).bind fun x56=>
 if x56=true then
 some (.ret false)
 else
 some (.next ())) 0 (g.Edges.length:Int) ()) (fun _=>
 some true) (fun v2=>some v2)) (fun v0=>some v0)
def Js [Ev] (t:Types) (a:Int) (b:Int):Option Int:=
 (Ht t).bind fun x11=>
 if (!decide (x11.2=0))=true then
 some x11.2
 else
 (D2 a 0 (AI ((t.Nodes.length:Int) - 1))).bind fun x22=>
 (if (!x22)=true then some true else ((D2 b 0 (AI ((t.Nodes.length:Int) - 1))).bind fun x30=>
 some (!x30))).bind fun x32=>
 if x32=true then
 some 6
 else
 some 0
def Hs [Ev] (t:Types) (a:Int):Option (List Attr × Int):=
 (Js t a a).bind fun x14=>
 if (!decide (x14=0))=true then
 some ([],x14)
 else
 (Mj t a).bind fun x20=>
 (forA (fun (i0:Int) (s0:List Attr)=>
 (AH x20 i0).bind fun x29=>
 (A3 [] x29.Names).bind fun x34=>
 (A3 s0 [Attr.mk x29.Name x29.Low x29.High x34]).bind fun x39=>
 some x39) 0 (x20.length:Int) []).bind fun s0=>
 some (s0,0)
def L8 [Ev] (t:Types) (p:Pattern) (node:Int) (index:Int):Option (Attr × Bool):=
 if ((decide (node<0))||(decide ((p.Graph.Nodes.length:Int)<=node)))=true then
 some (Attr.mk (⟨#[]⟩:ByteArray) 0 0 [],false)
 else
 (AH p.Graph.Nodes node).bind fun x29=>
 (Hs t x29).bind fun x31=>
 if (((!decide (x31.2=0))||(decide (index<0)))||(decide ((x31.1.length:Int)<=index)))=true then
 some (Attr.mk (⟨#[]⟩:ByteArray) 0 0 [],false)
 else
 (AH x31.1 index).bind fun x49=>
 some (x49,true)
def LD (n:Int):Option Bool:=
 some ((decide ((-1000000)<=n))&&(decide (n<=1000000)))
def I7 (n:Int) (t:Term):Option Int:=
 if ((((decide (t.Var<(-1)))||(decide (n<=t.Var)))||(decide (t.Add<(-1000000))))||(decide (1000000<t.Add)))=true then
 some 6
 else
 some 0
def Mw (n:Int) (x_1:Test):Option Int:=
 if ((!decide (x_1.Kind=1))&&(!decide (x_1.Kind=2)))=true then
 some 1
 else
 (I7 n x_1.Left).bind fun x17=>
 if (!decide (x17=0))=true then
 some x17
 else
 (I7 n x_1.Right).bind fun x24=>
 some x24
def K1 (n:Int) (l:List Test):Option Int:=
 if ((decide (n<0))||(decide (12<n)))=true then
 some 6
 else
 if (decide (40<(l.length:Int)))=true then
 some 3
 else
 thenR (forR (ρ:=Int) (fun (i0:Int) (_:Unit)=>
 (AH l i0).bind fun x25=>
 (Mw n x25).bind fun x27=>
 if (!decide (x27=0))=true then
 some (.ret x27)
 else
 some (.next ())) 0 (l.length:Int) ()) (fun _=>
 some 0) (fun v0=>some v0)
def KP (p:Pattern) (v_1:Int):Option Bool:=
 thenR (forR (ρ:=Bool) (fun (i0:Int) (_:Unit)=>
 (AH p.Slots i0).bind fun x16=>
 if (decide (x16.Term.Var=v_1))=true then
 some (.ret true)
 else
 some (.next ())) 0 (p.Slots.length:Int) ()) (fun _=>
 some false) (fun v0=>some v0)
def FU [Ev] (t:Types) (p:Pattern):Option Int:=
 (Ht t).bind fun x16=>
 if (!decide (x16.2=0))=true then
 some x16.2
 else
 (FT p.Graph).bind fun x24=>
 if (!decide (x24=0))=true then
 some x24
 else
 (Ir t p.Graph).bind fun x31=>
 if (!x31)=true then
 some 13
 else
 if ((decide (p.Vars<0))||(decide (12<p.Vars)))=true then
 some 6
 else
 if ((decide (10<(p.Slots.length:Int)))||(decide (10<(p.Tests.length:Int))))=true then
 some 3
 else
 thenR (forR (ρ:=Int) (fun (i0:Int) (_:Unit)=>
 (AH p.Slots i0).bind fun x61=>
 (L8 t p x61.Node x61.Attr).bind fun x70=>
 (if (((!x70.2)||(decide (x61.Term.Var<(-1))))||(decide (p.Vars<=x61.Term.Var)))=true then some true else ((LD x61.Term.Add).bind fun x93=>
 some (!x93))).bind fun x95=>
 if x95=true then
 some (.ret 6)
 else
 some (.next ())) 0 (p.Slots.length:Int) ()) (fun _=>
 (K1 p.Vars p.Tests).bind fun x100=>
 if (!decide (x100=0))=true then
 some x100
 else
 thenR (forR (ρ:=Int) (fun (i2:Int) (_:Unit)=>
 (KP p i2).bind fun x112=>
 if (!x112)=true then
 some (.ret 9)
 else
 some (.next ())) 0 p.Vars ()) (fun _=>
 some 0) (fun v2=>some v2)) (fun v0=>some v0)
def H8 (c:AA):Option Bool:=
 some (((decide ((AI ((AI ((AI ((c.Map.Nodes.length:Int)+(c.Map.Edges.length:Int)))+(c.Pattern.Graph.Nodes.length:Int)))+(c.Pattern.Graph.Edges.length:Int)))=0))&&(decide ((AI ((c.Pattern.Slots.length:Int)+(c.Pattern.Tests.length:Int)))=0)))&&(decide (c.Pattern.Vars=0)))
def K9 (c:AA):Option Bool:=
 if (decide (c.Kind=1))=true then
 (if (decide ((c.Kids.length:Int)=0))=true then ((H8 c).bind fun x13=>
 some (x13)) else some false).bind fun x14=>
 some x14
 else
 if (decide (c.Kind=2))=true then
 (if (decide ((c.Kids.length:Int)=1))=true then ((H8 c).bind fun x23=>
 some (x23)) else some false).bind fun x24=>
 some x24
 else
 (if (decide (c.Kind=3))=true then
 some (decide (c.Kind=3))
 else
 some (decide (c.Kind=4))).bind fun w1=>
 if w1=true then
 (if (decide (0<(c.Kids.length:Int)))=true then ((H8 c).bind fun x34=>
 some (x34)) else some false).bind fun x35=>
 some x35
 else
 if (decide (c.Kind=5))=true then
 some (decide ((c.Kids.length:Int)=1))
 else
 some false
def E0 [Ev]:Nat->AA->Option Bool
 | 0,_=>none
 | n+1,c=>
  (K9 c).bind fun x5=>
  if (!x5)=true then
  some false
  else
  thenR (forR (ρ:=Bool) (fun (i0:Int) (_:Unit)=>
  (AH c.Kids i0).bind fun x17=>
  (E0 n x17).bind fun x19=>
  if (!x19)=true then
  some (.ret false)
  else
  some (.next ())) 0 (c.Kids.length:Int) ()) (fun _=>
  some true) (fun v0=>some v0)
def MW [Ev] (c:AA):Option Bool:=J7 fun n=>E0 n c
def FL [Ev]:Nat->AA->Option (Int × Int)
 | 0,_=>none
 | n+1,c=>
  (forA (fun (i0:Int) (s0:Int × Int)=>
  (AH c.Kids i0).bind fun x20=>
  (FL n x20).bind fun x22=>
  some (AI (s0.1+x22.1),max s0.2 x22.2)) 0 (c.Kids.length:Int) (1,0)).bind fun s0=>
  (if (decide (c.Kind=5))=true then
  some (AI (s0.2+1))
  else
  some s0.2).bind fun w1=>
  some (s0.1,w1)
def ND [Ev] (c:AA):Option (Int × Int):=J7 fun n=>FL n c
def K7 [Ev] (c:AA):Option Int:=
 (MW c).bind fun x6=>
 if (!x6)=true then
 some 1
 else
 (ND c).bind fun x10=>
 if ((decide (12<x10.1))||(decide (3<x10.2)))=true then
 some 3
 else
 some 0
def L9 (p:Pattern) (v_1:Int):Option Bool:=
 thenR (forR (ρ:=Bool) (fun (i0:Int) (_:Unit)=>
 (AH p.Slots i0).bind fun x16=>
 if (decide (x16.Term.Var=v_1))=true then
 some (.ret true)
 else
 some (.next ())) 0 (p.Slots.length:Int) ()) (fun _=>
 some false) (fun v0=>some v0)
def K8 [Ev] (t:Types) (vars:Int) (q:Pattern):Option Int:=
 if (decide (q.Vars<vars))=true then
 some 20
 else
 (FU t q).bind fun x15=>
 if (!decide (x15=9))=true then
 some x15
 else
 thenR (forR (ρ:=Int) (fun (i0:Int) (_:Unit)=>
 (L9 q i0).bind fun x28=>
 if (!x28)=true then
 some (.ret x15)
 else
 some (.next ())) vars q.Vars ()) (fun _=>
 some 0) (fun v0=>some v0)
def Ju (a:Graph) (b:Graph) (m:Morphism):Option Int:=
 (FT a).bind fun x14=>
 if (!decide (x14=0))=true then
 some x14
 else
 (FT b).bind fun x19=>
 if (!decide (x19=0))=true then
 some x19
 else
 if ((!decide ((m.Nodes.length:Int)=(a.Nodes.length:Int)))||(!decide ((m.Edges.length:Int)=(a.Edges.length:Int))))=true then
 some 20
 else
 thenR (forR (ρ:=Int) (fun (i0:Int) (_:Unit)=>
 (AH m.Nodes i0).bind fun x49=>
 (if (decide (x49<0))=true then some true else ((AH m.Nodes i0).bind fun x56=>
 some (decide ((b.Nodes.length:Int)<=x56)))).bind fun x62=>
 if x62=true then
 some (.ret 6)
 else
 (AH m.Nodes i0).bind fun x68=>
 (AH b.Nodes x68).bind fun x70=>
 (AH a.Nodes i0).bind fun x75=>
 if (!decide (x70=x75))=true then
 some (.ret 13)
 else
 some (.next ())) 0 (a.Nodes.length:Int) ()) (fun _=>
 thenR (forR (ρ:=Int) (fun (i2:Int) (_:Unit)=>
 (AH m.Edges i2).bind fun x88=>
 (if (decide (x88<0))=true then some true else ((AH m.Edges i2).bind fun x95=>
 some (decide ((b.Edges.length:Int)<=x95)))).bind fun x101=>
 if x101=true then
 some (.ret 6)
 else
 (AH a.Edges i2).bind fun x105=>
 (AH m.Edges i2).bind fun x112=>
 (AH b.Edges x112).bind fun x114=>
 if (!decide (x105.Type'=x114.Type'))=true then
 some (.ret 13)
 else
 (AH m.Nodes x105.From).bind fun x125=>
 (if (!decide (x125=x114.From))=true then some true else ((AH m.Nodes x105.To).bind fun x135=>
 some (!decide (x135=x114.To)))).bind fun x140=>
 if x140=true then
 some (.ret 11)
 else
 some (.next ())) 0 (a.Edges.length:Int) ()) (fun _=>
 some 0) (fun v2=>some v2)) (fun v0=>some v0)
def H1 (l:List Int):Option Bool:=
 thenR (forR (ρ:=Bool) (fun (i0:Int) (_:Unit)=>
 thenR (forR (ρ:=Bool) (fun (i2:Int) (_:Unit)=>
 (AH l i0).bind fun x18=>
 (AH l i2).bind fun x22=>
 if (decide (x18=x22))=true then
 some (.ret false)
 else
 some (.next ())) 0 i0 ()) (fun _=>
 some (.next ())) (fun v2=>some (.ret v2))) 0 (l.length:Int) ()) (fun _=>
 some true) (fun v0=>some v0)
def Ib (a:Graph) (b:Graph) (m:Morphism):Option Bool:=
 (Ju a b m).bind fun x10=>
 (if (decide (x10=0))=true then ((H1 m.Nodes).bind fun x15=>
 some (x15)) else some false).bind fun x16=>
 (if x16=true then ((H1 m.Edges).bind fun x20=>
 some (x20)) else some false).bind fun x21=>
 some x21
def FV [Ev]:Nat->Types->Pattern->AA->Option Int
 | 0,_,_,_=>none
 | n+1,t,p,c=>
  if (decide (c.Kind=5))=true then
  (K8 t p.Vars c.Pattern).bind fun x21=>
  if (!decide (x21=0))=true then
  some x21
  else
  (Ju p.Graph c.Pattern.Graph c.Map).bind fun x32=>
  if (!decide (x32=0))=true then
  some x32
  else
  (Ib p.Graph c.Pattern.Graph c.Map).bind fun x43=>
  if (!x43)=true then
  some 1
  else
  thenR (forR (ρ:=Int) (fun (i0:Int) (_:Unit)=>
  (AH c.Kids i0).bind fun x59=>
  (FV n t c.Pattern x59).bind fun x61=>
  if (!decide (x61=0))=true then
  some (.ret x61)
  else
  some (.next ())) 0 (c.Kids.length:Int) ()) (fun _=>
  some 0) (fun v0=>some v0)
  else
  thenR (forR (ρ:=Int) (fun (i0:Int) (_:Unit)=>
  (AH c.Kids i0).bind fun x59=>
  (FV n t p x59).bind fun x61=>
  if (!decide (x61=0))=true then
  some (.ret x61)
  else
  some (.next ())) 0 (c.Kids.length:Int) ()) (fun _=>
  some 0) (fun v0=>some v0)
def SP [Ev] (t:Types) (p:Pattern) (c:AA):Option Int:=J7 fun n=>FV n t p c
def Hu [Ev] (t:Types) (p:Pattern) (c:AA):Option Int:=
 (FU t p).bind fun x11=>
 if (!decide (x11=0))=true then
 some x11
 else
 (K7 c).bind fun x16=>
 if (!decide (x16=0))=true then
 some x16
 else
 (SP t p c).bind fun x23=>
 some x23
def Kd :Option AA:=
 some (AA.mk 1 [] (Morphism.mk [] []) (Pattern.mk (Graph.mk [] []) [] 0 []))
def I6 (n:Int):Option (List Int):=
 (forA (fun (i0:Int) (s0:List Int)=>
 (A3 s0 [i0]).bind fun x13=>
 some x13) 0 n []).bind fun s0=>
 some s0
def Pt (g:Graph):Option Morphism:=
 (I6 (g.Nodes.length:Int)).bind fun x6=>
 (I6 (g.Edges.length:Int)).bind fun x10=>
 some (Morphism.mk x6 x10)
def L0 (g:Graph):Option Graph:=
 (A3 [] g.Nodes).bind fun x6=>
 (A3 [] g.Edges).bind fun x10=>
 some (Graph.mk x6 x10)
def Jz [Ev] (t:Types) (p:Pattern) (x_2:Int) (y:Int):Option (Pattern × Morphism):=
 (Pt p.Graph).bind fun x19=>
 (L0 p.Graph).bind fun x22=>
 (DJ x_2 3).bind fun x31=>
 (if (decide (0<x31))=true then
 (quo x_2 4).bind fun x37=>
 (DJ (AI (IntKind.u8.wrap x37)) (t.Nodes.length:Int)).bind fun x42=>
 (A3 x22.Nodes [x42]).bind fun x44=>
 some (Pattern.mk (Graph.mk x44 x22.Edges) [] p.Vars [],AI ((x22.Nodes.length:Int)+1))
 else
 some (Pattern.mk x22 [] p.Vars [],(x22.Nodes.length:Int))).bind fun w1=>
 (if (decide (0<w1.2))=true then ((DJ x_2 4).bind fun x53=>
 some (decide (0<x53))) else some false).bind fun x55=>
 (if x55=true then
 thenR (forR (ρ:=Unit) (fun (i0:Int) (s0:Pattern)=>
 (DJ (AI (i0+(AI x_2))) (t.Edges.length:Int)).bind fun x70=>
 (DJ (AI y) w1.2).bind fun x74=>
 (DJ y 2).bind fun x79=>
 if (decide (x79=1))=true then
 (A3 s0.Graph.Edges [B6.mk x70 (AI (w1.2 - 1)) x74]).bind fun x92=>
 some (.brk (Pattern.mk (Graph.mk s0.Graph.Nodes x92) s0.Slots s0.Vars s0.Tests))
 else
 (A3 s0.Graph.Edges [B6.mk x70 x74 (AI (w1.2 - 1))]).bind fun x92=>
 some (.brk (Pattern.mk (Graph.mk s0.Graph.Nodes x92) s0.Slots s0.Vars s0.Tests))) 0 (t.Edges.length:Int) w1.1) (fun s0=>
 some s0) (fun _=>none)
 else
 some w1.1).bind fun w2=>
 (if ((decide (0<w1.2))&&(decide (w2.Vars<6)))=true then
 (AH w2.Graph.Nodes (AI (w1.2 - 1))).bind fun x107=>
 (if (decide (x107<(t.Nodes.length:Int)))=true then ((FU t (Pattern.mk w2.Graph [CT.mk (AI (w1.2 - 1)) 0 (Term.mk 0 0)] 1 [])).bind fun x124=>
 some (decide (x124=0))) else some false).bind fun x126=>
 if x126=true then
 (DJ y 3).bind fun x134=>
 (A3 w2.Slots [CT.mk (AI (w1.2 - 1)) 0 (Term.mk w2.Vars (AI x134))]).bind fun x139=>
 if (decide (1<(AI (w2.Vars+1))))=true then
 (quo x_2 64).bind fun x151=>
 (DJ (AI (IntKind.u8.wrap x151)) 2).bind fun x153=>
 (quo y 8).bind fun x160=>
 (DJ (AI (IntKind.u8.wrap x160)) 9).bind fun x162=>
 (A3 w2.Tests [Test.mk (AI (1+x153)) (Term.mk 0 0) (Term.mk (AI ((AI (w2.Vars+1)) - 1)) (AI (x162 - 4)))]).bind fun x167=>
 some (Pattern.mk w2.Graph x139 (AI (w2.Vars+1)) x167)
 else
 some (Pattern.mk w2.Graph x139 (AI (w2.Vars+1)) w2.Tests)
 else
 some w2
 else
 some w2).bind fun w3=>
 some (w3,x19)
def C3 [Ev]:Nat->Types->Pattern->(List Int)->Int->Option (AA × List Int)
 | 0,_,_,_,_=>none
 | n+1,t,p,codes,depth=>
  if (decide ((codes.length:Int)<3))=true then
  (Kd).bind fun x22=>
  some (x22,[])
  else
  (AH codes 1).bind fun x24=>
  (AH codes 2).bind fun x27=>
  (slc codes 3 codes.length).bind fun x30=>
  (AH codes 0).bind fun x33=>
  (DJ x33 8).bind fun x35=>
  (if (decide (x35=1))=true then
  some (decide (x35=1))
  else
  some (decide (x35=2))).bind fun w1=>
  (if w1=true then
  some (AA.mk 2 [] (Morphism.mk [] []) (Pattern.mk (Graph.mk [] []) [] 0 []))
  else
  if (decide (x35=3))=true then
  some (AA.mk 3 [] (Morphism.mk [] []) (Pattern.mk (Graph.mk [] []) [] 0 []))
  else
  if (decide (x35=4))=true then
  some (AA.mk 4 [] (Morphism.mk [] []) (Pattern.mk (Graph.mk [] []) [] 0 []))
  else
  if (decide (x35=5))=true then
  if (decide (x35=5))=true then
  some (AA.mk 5 [] (Morphism.mk [] []) (Pattern.mk (Graph.mk [] []) [] 0 []))
  else
  some (AA.mk 1 [] (Morphism.mk [] []) (Pattern.mk (Graph.mk [] []) [] 0 []))
  else
  if (decide (x35=6))=true then
  if (decide (x35=6))=true then
  some (AA.mk 5 [] (Morphism.mk [] []) (Pattern.mk (Graph.mk [] []) [] 0 []))
  else
  some (AA.mk 1 [] (Morphism.mk [] []) (Pattern.mk (Graph.mk [] []) [] 0 []))
  else
  if (decide (x35=7))=true then
  some (AA.mk 5 [] (Morphism.mk [] []) (Pattern.mk (Graph.mk [] []) [] 0 []))
  else
  some (AA.mk 1 [] (Morphism.mk [] []) (Pattern.mk (Graph.mk [] []) [] 0 []))).bind fun w2=>
  (DJ (AI x24) 2).bind fun x53=>
  (DJ (AI x24) 2).bind fun x57=>
  (AH [0,0,1,AI (1+x53),AI (1+x57),1] w2.Kind).bind fun x62=>
  if (decide (w2.Kind=5))=true then
  if ((decide (depth=0))||(decide (4<(AI ((p.Graph.Nodes.length:Int)+(p.Graph.Edges.length:Int))))))=true then
  (Kd).bind fun x82=>
  some (x82,x30)
  else
  (Jz t p x24 x27).bind fun x89=>
  (forA (fun (i1:Int) (s1:List Int × AA)=>
  (C3 n t x89.1 s1.1 (AI (depth - 1))).bind fun x107=>
  (A3 s1.2.Kids [x107.1]).bind fun x114=>
  some (x107.2,AA.mk s1.2.Kind x114 s1.2.Map s1.2.Pattern)) 0 x62 (x30,AA.mk w2.Kind w2.Kids x89.2 x89.1)).bind fun s1=>
  some (s1.2,s1.1)
  else
  (forA (fun (i1:Int) (s1:List Int × AA)=>
  (C3 n t p s1.1 depth).bind fun x107=>
  (A3 s1.2.Kids [x107.1]).bind fun x114=>
  some (x107.2,AA.mk s1.2.Kind x114 s1.2.Map s1.2.Pattern)) 0 x62 (x30,w2)).bind fun s1=>
  some (s1.2,s1.1)
def Pv [Ev] (t:Types) (p:Pattern) (codes:List Int) (depth:Int):Option (AA × List Int):=J7 fun n=>C3 n t p codes depth
def Kc [Ev] (t:Types) (p:Pattern) (codes:List Int):Option AA:=
 (slc codes 0 (min (codes.length:Int) 15)).bind fun x16=>
 (Pv t p x16 2).bind fun x17=>
 some x17.1
def JI (g:Graph):Option Bool:=
 some ((decide ((g.Nodes.length:Int)<=45))&&(decide ((g.Edges.length:Int)<=90)))
def LU (p:Pattern):Option Bool:=
 (JI p.Graph).bind fun x5=>
 some ((x5&&(decide ((p.Slots.length:Int)<=15)))&&(decide ((p.Tests.length:Int)<=15)))
def OG (m:Morphism) (n:Int):Option Bool:=
 some (decide ((AI ((m.Nodes.length:Int)+(m.Edges.length:Int)))<=n))
def E4 [Ev]:Nat->AA->Int->Option Int
 | 0,_,_=>none
 | n+1,c,most=>
  (LU c.Pattern).bind fun x10=>
  (if (!x10)=true then some true else ((OG c.Map 140).bind fun x15=>
  some (!x15))).bind fun x17=>
  if x17=true then
  some (-1)
  else
  thenR (FB (ρ:=Int) (fun (s0:Int × Int)=>
  if ((decide (s0.2<(c.Kids.length:Int)))&&(decide (0<=s0.1)))=true then
  (AH c.Kids s0.2).bind fun x32=>
  (E4 n x32 s0.1).bind fun x35=>
  some (.next (x35,AI (s0.2+1)))
  else
  some (.brk (s0.1,s0.2))) (AI (most - 1),0)) (fun s0=>
  some s0.1) (fun v0=>some v0)
def Pu [Ev] (c:AA) (most:Int):Option Int:=J7 fun n=>E4 n c most
def M0 [Ev] (c:AA):Option Bool:=
 (Pu c 40).bind fun x4=>
 some (decide (0<=x4))
def LT (h_0:AY):Option Bool:=
 (JI h_0.Graph).bind fun x6=>
 if ((!x6)||(decide (45<(h_0.Values.length:Int))))=true then
 some false
 else
 thenR (forR (ρ:=Bool) (fun (i0:Int) (_:Unit)=>
 (AH h_0.Values i0).bind fun x24=>
 if (decide (12<(x24.length:Int)))=true then
 some (.ret false)
 else
 some (.next ())) 0 (h_0.Values.length:Int) ()) (fun _=>
 some true) (fun v0=>some v0)
def Mx [Ev] (t:Types):Option Bool:=
 if ((decide (20<(t.Nodes.length:Int)))||(decide (30<(t.Edges.length:Int))))=true then
 some false
 else
 thenR (forR (ρ:=Bool) (fun (i0:Int) (s0:Int)=>
 (AH t.Nodes i0).bind fun x30=>
 (if (decide (30<(AI (s0+(x30.Attrs.length:Int)))))=true then some true else ((AH t.Nodes i0).bind fun x41=>
 some (decide (40<(x41.Name.size:Int))))).bind fun x46=>
 if x46=true then
 some (.ret false)
 else
 thenR (FB (ρ:=Bool) (fun (s2:Int)=>
 (AH t.Nodes i0).bind fun x51=>
 if (decide (s2<(x51.Attrs.length:Int)))=true then
 (AH t.Nodes i0).bind fun x61=>
 (AH x61.Attrs s2).bind fun x65=>
 if ((decide (40<(x65.Name.size:Int)))||(decide (25<(x65.Names.length:Int))))=true then
 some (.ret false)
 else
 thenR (FB (ρ:=Bool) (fun (s4:Int)=>
 if (decide (s4<(x65.Names.length:Int)))=true then
 (AH x65.Names s4).bind fun x87=>
 if (decide (40<(x87.size:Int)))=true then
 some (.ret false)
 else
 some (.next (AI (s4+1)))
 else
 some (.brk s4)) 0) (fun s4=>
 some (.next (AI (s2+1)))) (fun v4=>some (.ret v4))
 else
 some (.brk s2)) 0) (fun s2=>
 some (.next (AI (s0+(x30.Attrs.length:Int))))) (fun v2=>some (.ret v2))) 0 (t.Nodes.length:Int) 0) (fun s0=>
 thenR (forR (ρ:=Bool) (fun (i6:Int) (_:Unit)=>
 (AH t.Edges i6).bind fun x101=>
 if (decide (40<(x101.Name.size:Int)))=true then
 some (.ret false)
 else
 some (.next ())) 0 (t.Edges.length:Int) ()) (fun _=>
 some true) (fun v6=>some v6)) (fun v0=>some v0)
def Jw [Ev] (t:Types) (p:Graph) (g:Graph):Option Int:=
 (Ht t).bind fun x13=>
 if (!decide (x13.2=0))=true then
 some x13.2
 else
 (FT p).bind fun x20=>
 if (!decide (x20=0))=true then
 some x20
 else
 (FT g).bind fun x25=>
 if (!decide (x25=0))=true then
 some x25
 else
 (Ir t p).bind fun x31=>
 (if (!x31)=true then some true else ((Ir t g).bind fun x36=>
 some (!x36))).bind fun x38=>
 if x38=true then
 some 13
 else
 some 0
def K5 [Ev] (t:Types) (p:Graph) (g:Graph):Option Bool:=
 (Mx t).bind fun x8=>
 (if x8=true then ((JI p).bind fun x11=>
 some (x11)) else some false).bind fun x12=>
 (if x12=true then ((JI g).bind fun x15=>
 some (x15)) else some false).bind fun x16=>
 (if x16=true then ((Jw t p g).bind fun x21=>
 some ((!decide (x21=0))||(((decide ((AI ((p.Nodes.length:Int)+(p.Edges.length:Int)))<=6))&&(decide ((g.Nodes.length:Int)<=8)))&&(decide ((g.Edges.length:Int)<=12))))) else some false).bind fun x45=>
 some x45
def Mm [Ev] (t:Types) (p:Pattern) (h_2:AY):Option Bool:=
 (LU p).bind fun x8=>
 (if x8=true then ((LT h_2).bind fun x11=>
 some (x11)) else some false).bind fun x12=>
 (if x12=true then ((K5 t p.Graph h_2.Graph).bind fun x19=>
 some (x19)) else some false).bind fun x20=>
 some x20
def GH [Ev]:Nat->AA->Option Bool
 | 0,_=>none
 | n+1,c=>
  thenR (forR (ρ:=Bool) (fun (i0:Int) (_:Unit)=>
  (AH c.Kids i0).bind fun x14=>
  (GH n x14).bind fun x16=>
  if (!x16)=true then
  some (.ret false)
  else
  some (.next ())) 0 (c.Kids.length:Int) ()) (fun _=>
  some (decide ((AI ((c.Pattern.Graph.Nodes.length:Int)+(c.Pattern.Graph.Edges.length:Int)))<=6))) (fun v0=>some v0)
def Np [Ev] (c:AA):Option Bool:=J7 fun n=>GH n c
def EK [Ev]:Nat->Pattern->AA->Int->Int->Option Bool
 | 0,_,_,_,_=>none
 | n+1,p,c,nodes,edges=>
  (if (decide (c.Kind=5))=true then
  some c.Pattern
  else
  some p).bind fun w1=>
  thenR (FB (ρ:=Bool) (fun (s0:Int × Int)=>
  if (decide (s0.2<(w1.Graph.Nodes.length:Int)))=true then
  some (.next (AI (s0.1*nodes),AI (s0.2+1)))
  else
  some (.brk (s0.1,s0.2))) (1,(p.Graph.Nodes.length:Int))) (fun s0=>
  thenR (FB (ρ:=Bool) (fun (s2:Int × Int)=>
  if (decide (s2.2<(w1.Graph.Edges.length:Int)))=true then
  some (.next (AI (s2.1*edges),AI (s2.2+1)))
  else
  some (.brk (s2.1,s2.2))) (s0.1,(p.Graph.Edges.length:Int))) (fun s2=>
  thenR (forR (ρ:=Bool) (fun (i4:Int) (_:Unit)=>
  (AH c.Kids i4).bind fun x61=>
  (EK n w1 x61 nodes edges).bind fun x65=>
  if (!x65)=true then
  some (.ret false)
  else
  some (.next ())) 0 (c.Kids.length:Int) ()) (fun _=>
  some (decide (s2.1<=5000))) (fun v4=>some v4)) (fun v2=>some v2)) (fun v0=>some v0)
def NC [Ev] (p:Pattern) (c:AA) (nodes:Int) (edges:Int):Option Bool:=J7 fun n=>EK n p c nodes edges
def Is [Ev] (t:Types) (p:Pattern) (c:AA) (h_3:AY):Option Bool:=
 (M0 c).bind fun x10=>
 (if (!x10)=true then some true else ((LU p).bind fun x14=>
 some (!x14))).bind fun x16=>
 (if x16=true then some true else ((LT h_3).bind fun x19=>
 some (!x19))).bind fun x21=>
 if x21=true then
 some false
 else
 (Hu t p c).bind fun x25=>
 (if (!decide (x25=0))=true then some true else ((Mm t p h_3).bind fun x31=>
 (if x31=true then ((Np c).bind fun x34=>
 some (x34)) else some false).bind fun x35=>
 (if ((x35&&(decide ((h_3.Graph.Nodes.length:Int)<=6)))&&(decide ((h_3.Graph.Edges.length:Int)<=8)))=true then ((NC p c 14 18).bind fun x53=>
 some (x53)) else some false).bind fun x54=>
 some (x54))).bind fun x55=>
 some x55
def Lx [Ev] (nodes:List II) (edges:List II):Option Types:=
 thenR (FB (ρ:=Types) (fun (s0:Types × Int)=>
 if ((decide (s0.2=0))||((decide (s0.2<(nodes.length:Int)))&&(decide (s0.2<6))))=true then
 if (decide (s0.2<(nodes.length:Int)))=true then
 (AH nodes s0.2).bind fun x33=>
 (sslc (⟨#[65,66,67,68,69,70]⟩:ByteArray) s0.2 (AI (s0.2+1))).bind fun x38=>
 (DJ (AI x33.a0) (AI (s0.2+1))).bind fun x44=>
 (quo x33.a0 16).bind fun x48=>
 (DJ (IntKind.u8.wrap x48) 4).bind fun x49=>
 (sslc (⟨#[117,118,119,120,121,122]⟩:ByteArray) s0.2 (AI (s0.2+1))).bind fun x55=>
 (DJ x33.a1 4).bind fun x58=>
 if (decide (x58=1))=true then
 (quo x33.a1 4).bind fun x64=>
 (DJ (AI (IntKind.u8.wrap x64)) 9).bind fun x66=>
 (A3 s0.1.Nodes [BE.mk x38 (AI (x44 - 1)) (decide (x49=3)) [Attr.mk x55 (-3) (AI (3+x66)) []]]).bind fun x82=>
 some (.next (Types.mk x82 s0.1.Edges,AI (s0.2+1)))
 else
 if (decide (x58=2))=true then
 (A3 s0.1.Nodes [BE.mk x38 (AI (x44 - 1)) (decide (x49=3)) [Attr.mk x55 0 1 [(⟨#[111,102,102]⟩:ByteArray),(⟨#[111,110]⟩:ByteArray)]]]).bind fun x82=>
 some (.next (Types.mk x82 s0.1.Edges,AI (s0.2+1)))
 else
 (A3 s0.1.Nodes [BE.mk x38 (AI (x44 - 1)) (decide (x49=3)) []]).bind fun x82=>
 some (.next (Types.mk x82 s0.1.Edges,AI (s0.2+1)))
 else
 (sslc (⟨#[65,66,67,68,69,70]⟩:ByteArray) s0.2 (AI (s0.2+1))).bind fun x38=>
 (DJ (AI 0) (AI (s0.2+1))).bind fun x44=>
 (quo 0 16).bind fun x48=>
 (DJ (IntKind.u8.wrap x48) 4).bind fun x49=>
 (sslc (⟨#[117,118,119,120,121,122]⟩:ByteArray) s0.2 (AI (s0.2+1))).bind fun x55=>
 (DJ 0 4).bind fun x58=>
 if (decide (x58=1))=true then
 (quo 0 4).bind fun x64=>
 (DJ (AI (IntKind.u8.wrap x64)) 9).bind fun x66=>
 (A3 s0.1.Nodes [BE.mk x38 (AI (x44 - 1)) (decide (x49=3)) [Attr.mk x55 (-3) (AI (3+x66)) []]]).bind fun x82=>
 some (.next (Types.mk x82 s0.1.Edges,AI (s0.2+1)))
 else
 if (decide (x58=2))=true then
 (A3 s0.1.Nodes [BE.mk x38 (AI (x44 - 1)) (decide (x49=3)) [Attr.mk x55 0 1 [(⟨#[111,102,102]⟩:ByteArray),(⟨#[111,110]⟩:ByteArray)]]]).bind fun x82=>
 some (.next (Types.mk x82 s0.1.Edges,AI (s0.2+1)))
 else
 (A3 s0.1.Nodes [BE.mk x38 (AI (x44 - 1)) (decide (x49=3)) []]).bind fun x82=>
 some (.next (Types.mk x82 s0.1.Edges,AI (s0.2+1)))
 else
 some (.brk (s0.1,s0.2))) (Types.mk [] [],0)) (fun s0=>
 thenR (FB (ρ:=Types) (fun (s3:Types × Int)=>
 if ((decide (s3.2<(edges.length:Int)))&&(decide (s3.2<5)))=true then
 (sslc (⟨#[101,102,103,104,105]⟩:ByteArray) s3.2 (AI (s3.2+1))).bind fun x102=>
 (AH edges s3.2).bind fun x105=>
 (DJ (AI x105.a0) (s3.1.Nodes.length:Int)).bind fun x110=>
 (AH edges s3.2).bind fun x113=>
 (DJ (AI x113.a1) (s3.1.Nodes.length:Int)).bind fun x118=>
 (A3 s3.1.Edges [CJ.mk x102 x110 x118 0 (-1) 0 (-1)]).bind fun x121=>
 some (.next (Types.mk s3.1.Nodes x121,AI (s3.2+1)))
 else
 some (.brk (s3.1,s3.2))) (s0.1,0)) (fun s3=>
 some s3.1) (fun v3=>some v3)) (fun v0=>some v0)
def GG [Ev]:Nat->Types->Int->Int->Option Bool
 | 0,_,_,_=>none
 | n+1,t,a,b=>
  (if (decide (a=b))=true then some true else ((if (decide (0<=a))=true then ((AH t.Nodes a).bind fun x18=>
  (GG n t x18.Parent b).bind fun x22=>
  some (x22)) else some false).bind fun x23=>
  some (x23))).bind fun x24=>
  some x24
def G8 [Ev] (t:Types) (a:Int) (b:Int):Option Bool:=J7 fun n=>GG n t a b
def Jv [Ev] (t:Types) (g:Graph) (kind:Int):Option (List Int):=
 (forA (fun (i0:Int) (s0:List Int)=>
 (AH g.Nodes i0).bind fun x20=>
 (G8 t x20 kind).bind fun x23=>
 if x23=true then
 (A3 s0 [i0]).bind fun x27=>
 some x27
 else
 some s0) 0 (g.Nodes.length:Int) []).bind fun s0=>
 some s0
def L5 [Ev] (t:Types) (d:Jt) (abstract:Bool):Option Graph:=
 (forA (fun (i0:Int) (s0:List Int)=>
 (if abstract=true then some true else ((AH t.Nodes i0).bind fun x27=>
 some (!x27.Abstract))).bind fun x31=>
 if x31=true then
 (A3 s0 [i0]).bind fun x35=>
 some x35
 else
 some s0) 0 (t.Nodes.length:Int) []).bind fun s0=>
 thenR (FB (ρ:=Graph) (fun (s2:Graph × Int)=>
 if (((decide (s2.2<(d.Nodes.length:Int)))&&(decide (s2.2<8)))&&(decide (0<(s0.length:Int))))=true then
 (AH d.Nodes s2.2).bind fun x58=>
 (DJ (AI x58) (s0.length:Int)).bind fun x63=>
 (AH s0 x63).bind fun x64=>
 (A3 s2.1.Nodes [x64]).bind fun x67=>
 some (.next (Graph.mk x67 s2.1.Edges,AI (s2.2+1)))
 else
 some (.brk (s2.1,s2.2))) (Graph.mk [] [],0)) (fun s2=>
 thenR (FB (ρ:=Graph) (fun (s4:Graph × Int)=>
 if (((decide (s4.2<(d.Edges.length:Int)))&&(decide (s4.2<10)))&&(decide (0<(t.Edges.length:Int))))=true then
 (AH d.Edges s4.2).bind fun x89=>
 (DJ (AI x89.a0) (t.Edges.length:Int)).bind fun x96=>
 (AH t.Edges x96).bind fun x102=>
 (Jv t s4.1 x102.From).bind fun x105=>
 (AH t.Edges x96).bind fun x111=>
 (Jv t s4.1 x111.To).bind fun x114=>
 if ((decide (0<(x105.length:Int)))&&(decide (0<(x114.length:Int))))=true then
 (AH d.Edges s4.2).bind fun x130=>
 (DJ (AI x130.a1) (x105.length:Int)).bind fun x136=>
 (AH x105 x136).bind fun x137=>
 (AH d.Edges s4.2).bind fun x143=>
 (DJ (AI x143.a2) (x114.length:Int)).bind fun x149=>
 (AH x114 x149).bind fun x150=>
 (A3 s4.1.Edges [B6.mk x96 x137 x150]).bind fun x154=>
 some (.next (Graph.mk s4.1.Nodes x154,AI (s4.2+1)))
 else
 some (.next (s4.1,AI (s4.2+1)))
 else
 some (.brk (s4.1,s4.2))) (s2.1,0)) (fun s4=>
 some s4.1) (fun v4=>some v4)) (fun v2=>some v2)
def F6 (x_0:Int) (n:Int):Option Int:=
 (DJ x_0 n).bind fun x7=>
 (DJ (AI (x7+n)) n).bind fun x11=>
 some x11
def Lw (n:Int) (code:NV):Option Test:=
 (F6 (AI code.a0) 4).bind fun x11=>
 (quo x11 3).bind fun x12=>
 (F6 (AI code.a1) (AI (n+1))).bind fun x19=>
 (F6 (AI code.a2) (AI (n+1))).bind fun x26=>
 (DJ (AI code.a3) 12).bind fun x35=>
 some (Test.mk (AI (1+(AI x12))) (Term.mk (AI (x19 - 1)) 0) (Term.mk (AI (x26 - 1)) x35))
def L7 [Ev] (t:Types) (d:Jx):Option Pattern:=
 (L5 t d.Graph true).bind fun x19=>
 thenR (FB (ρ:=Pattern) (fun (s0:List Im × Int)=>
 if (decide (s0.2<(x19.Nodes.length:Int)))=true then
 (AH x19.Nodes s0.2).bind fun x35=>
 (Hs t x35).bind fun x37=>
 (forA (fun (i2:Int) (s2:List Im)=>
 (A3 s2 [Im.mk s0.2 i2]).bind fun x51=>
 some x51) 0 (x37.1.length:Int) s0.1).bind fun s2=>
 some (.next (s2,AI (s0.2+1)))
 else
 some (.brk (s0.1,s0.2))) ([],0)) (fun s0=>
 thenR (FB (ρ:=Pattern) (fun (s4:Pattern × Int)=>
 if (((decide (s4.2<(d.Slots.length:Int)))&&(decide (s4.2<4)))&&(decide (0<(s0.1.length:Int))))=true then
 (AH d.Slots s4.2).bind fun x71=>
 (DJ (AI x71.a0) (s0.1.length:Int)).bind fun x79=>
 (AH s0.1 x79).bind fun x80=>
 (DJ (AI x71.a1) 5).bind fun x89=>
 (DJ (AI x71.a2) 5).bind fun x94=>
 if (decide (s4.1.Vars<=(AI (x89 - 1))))=true then
 if (decide (3<(AI (s4.1.Vars+1))))=true then
 (A3 s4.1.Slots [CT.mk x80.a0 x80.a1 (Term.mk 0 0)]).bind fun x122=>
 some (.next (Pattern.mk s4.1.Graph x122 3 s4.1.Tests,AI (s4.2+1)))
 else
 (A3 s4.1.Slots [CT.mk x80.a0 x80.a1 (Term.mk s4.1.Vars 0)]).bind fun x122=>
 some (.next (Pattern.mk s4.1.Graph x122 (AI (s4.1.Vars+1)) s4.1.Tests,AI (s4.2+1)))
 else
 if (decide (3<s4.1.Vars))=true then
 (A3 s4.1.Slots [CT.mk x80.a0 x80.a1 (Term.mk 0 (AI (x94 - 2)))]).bind fun x122=>
 some (.next (Pattern.mk s4.1.Graph x122 3 s4.1.Tests,AI (s4.2+1)))
 else
 (A3 s4.1.Slots [CT.mk x80.a0 x80.a1 (Term.mk (AI (x89 - 1)) (AI (x94 - 2)))]).bind fun x122=>
 some (.next (Pattern.mk s4.1.Graph x122 s4.1.Vars s4.1.Tests,AI (s4.2+1)))
 else
 some (.brk (s4.1,s4.2))) (Pattern.mk x19 [] 0 [],0)) (fun s4=>
 thenR (FB (ρ:=Pattern) (fun (s6:Pattern × Int)=>
 if ((decide (s6.2<(d.Tests.length:Int)))&&(decide (s6.2<3)))=true then
 (AH d.Tests s6.2).bind fun x142=>
 (Lw s6.1.Vars x142).bind fun x144=>
 (A3 s6.1.Tests [x144]).bind fun x146=>
 some (.next (Pattern.mk s6.1.Graph s6.1.Slots s6.1.Vars x146,AI (s6.2+1)))
 else
 some (.brk (s6.1,s6.2))) (s4.1,0)) (fun s6=>
 some s6.1) (fun v6=>some v6)) (fun v4=>some v4)) (fun v0=>some v0)
def I8 (t:Types):Option (List Int):=
 (forA (fun (i0:Int) (s0:List Int)=>
 (AH t.Nodes i0).bind fun x15=>
 if (!x15.Abstract)=true then
 (A3 s0 [i0]).bind fun x22=>
 some x22
 else
 some s0) 0 (t.Nodes.length:Int) []).bind fun s0=>
 some s0
def Ka [Ev] (t:Types) (edge:Int) (from':Int) (to':Int):Option Bool:=
 (Js t from' to').bind fun x12=>
 (if (!decide (x12=0))=true then some true else ((D2 edge 0 (AI ((t.Edges.length:Int) - 1))).bind fun x20=>
 some (!x20))).bind fun x22=>
 if x22=true then
 some false
 else
 (AH t.Edges edge).bind fun x28=>
 (G8 t from' x28.From).bind fun x31=>
 (if x31=true then ((AH t.Edges edge).bind fun x38=>
 (G8 t to' x38.To).bind fun x41=>
 some (x41)) else some false).bind fun x42=>
 some x42
def L3 [Ev] (t:Types) (d:Iq):Option AY:=
 (I8 t).bind fun x17=>
 thenR (FB (ρ:=AY) (fun (s0:AY × Int)=>
 if (((decide (s0.2<(d.Nodes.length:Int)))&&(decide (s0.2<8)))&&(decide (0<(x17.length:Int))))=true then
 (AH d.Nodes s0.2).bind fun x38=>
 (DJ (AI x38.a0) (x17.length:Int)).bind fun x44=>
 (AH x17 x44).bind fun x45=>
 (Hs t x45).bind fun x50=>
 (forA (fun (i2:Int) (s2:List Int)=>
 (AH x50.1 i2).bind fun x63=>
 (AH d.Nodes s0.2).bind fun x69=>
 (AH x50.1 i2).bind fun x78=>
 (AH x50.1 i2).bind fun x83=>
 (DJ (AI ((AI x69.a1)+(AI (7*i2)))) (AI ((AI (x78.High - x83.Low))+1))).bind fun x88=>
 (A3 s2 [AI (x63.Low+x88)]).bind fun x91=>
 some x91) 0 (x50.1.length:Int) []).bind fun s2=>
 (A3 s0.1.Graph.Nodes [x45]).bind fun x97=>
 (A3 s0.1.Values [s2]).bind fun x102=>
 some (.next (AY.mk (Graph.mk x97 s0.1.Graph.Edges) x102,AI (s0.2+1)))
 else
 some (.brk (s0.1,s0.2))) (AY.mk (Graph.mk [] []) [],0)) (fun s0=>
 thenR (FB (ρ:=AY) (fun (s4:AY × Int)=>
 if ((((decide (s4.2<(d.Edges.length:Int)))&&(decide (s4.2<10)))&&(decide (0<(s0.1.Graph.Nodes.length:Int))))&&(decide (0<(t.Edges.length:Int))))=true then
 (AH d.Edges s4.2).bind fun x134=>
 (DJ (AI x134.a0) (t.Edges.length:Int)).bind fun x141=>
 (AH d.Edges s4.2).bind fun x145=>
 (DJ (AI x145.a1) (s0.1.Graph.Nodes.length:Int)).bind fun x150=>
 (AH d.Edges s4.2).bind fun x154=>
 (DJ (AI x154.a2) (s0.1.Graph.Nodes.length:Int)).bind fun x159=>
 (AH s4.1.Graph.Nodes x150).bind fun x169=>
 (AH s4.1.Graph.Nodes x159).bind fun x176=>
 (Ka t x141 x169 x176).bind fun x178=>
 if x178=true then
 (A3 s4.1.Graph.Edges [B6.mk x141 x150 x159]).bind fun x184=>
 some (.next (AY.mk (Graph.mk s4.1.Graph.Nodes x184) s4.1.Values,AI (s4.2+1)))
 else
 some (.next (s4.1,AI (s4.2+1)))
 else
 some (.brk (s4.1,s4.2))) (s0.1,0)) (fun s4=>
 some s4.1) (fun v4=>some v4)) (fun v0=>some v0)
def L4 [Ev] (t:Types) (kind:Int) (BB:List Int):Option Int:=
 if (decide ((t.Nodes.length:Int)<=kind))=true then
 some 6
 else
 (AH t.Nodes kind).bind fun x18=>
 if x18.Abstract=true then
 some 13
 else
 (Hs t kind).bind fun x24=>
 if (!decide ((BB.length:Int)=(x24.1.length:Int)))=true then
 some 20
 else
 thenR (forR (ρ:=Int) (fun (i0:Int) (_:Unit)=>
 (AH BB i0).bind fun x40=>
 (AH x24.1 i0).bind fun x44=>
 (if (decide (x40<x44.Low))=true then some true else ((AH BB i0).bind fun x51=>
 (AH x24.1 i0).bind fun x55=>
 some (decide (x55.High<x51)))).bind fun x59=>
 if x59=true then
 some (.ret 6)
 else
 some (.next ())) 0 (x24.1.length:Int) ()) (fun _=>
 some 0) (fun v0=>some v0)
def K4 [Ev] (t:Types) (h_1:AY):Option (Int × Int):=
 (Ht t).bind fun x15=>
 if (!decide (x15.2=0))=true then
 some ((-1),x15.2)
 else
 (FT h_1.Graph).bind fun x23=>
 if (!decide (x23=0))=true then
 some ((-1),x23)
 else
 if (!decide ((h_1.Values.length:Int)=(h_1.Graph.Nodes.length:Int)))=true then
 some ((-1),20)
 else
 thenR (forR (ρ:=(Int × Int)) (fun (i0:Int) (_:Unit)=>
 (AH h_1.Graph.Nodes i0).bind fun x48=>
 (AH h_1.Values i0).bind fun x53=>
 (L4 t x48 x53).bind fun x55=>
 if (!decide (x55=0))=true then
 some (.ret (i0,x55))
 else
 some (.next ())) 0 (h_1.Graph.Nodes.length:Int) ()) (fun _=>
 thenR (forR (ρ:=(Int × Int)) (fun (i2:Int) (_:Unit)=>
 (AH h_1.Graph.Edges i2).bind fun x72=>
 if (decide ((t.Edges.length:Int)<=x72.Type'))=true then
 some (.ret (i2,6))
 else
 (AH h_1.Graph.Nodes x72.From).bind fun x89=>
 (AH h_1.Graph.Nodes x72.To).bind fun x96=>
 (Ka t x72.Type' x89 x96).bind fun x98=>
 if (!x98)=true then
 some (.ret (i2,13))
 else
 some (.next ())) 0 (h_1.Graph.Edges.length:Int) ()) (fun _=>
 some ((-1),0)) (fun v2=>some v2)) (fun v0=>some v0)
def K6 [Ev] (t:Types) (p:Pattern) (h_2:AY):Option Int:=
 (FU t p).bind fun x12=>
 if (!decide (x12=0))=true then
 some x12
 else
 (K4 t h_2).bind fun x19=>
 some x19.2
def FX (s_0:AO) (nodes:List Int):Option Bool:=
 thenR (forR (ρ:=Bool) (fun (i0:Int) (_:Unit)=>
 (AH s_0.p.Edges i0).bind fun x26=>
 if ((decide ((nodes.length:Int)<=x26.From))||(decide ((nodes.length:Int)<=x26.To)))=true then
 some (.next ())
 else
 (forA (fun (i2:Int) (s2:Bool)=>
 (AH s_0.g.Edges i2).bind fun x56=>
 (if s2=true then some true else ((if (decide (x26.Type'=x56.Type'))=true then ((AH nodes x26.From).bind fun x71=>
 some (decide (x56.From=x71))) else some false).bind fun x74=>
 (if x74=true then ((AH nodes x26.To).bind fun x81=>
 some (decide (x56.To=x81))) else some false).bind fun x84=>
 some (x84))).bind fun x85=>
 some x85) 0 (s_0.g.Edges.length:Int) false).bind fun s2=>
 if (!s2)=true then
 some (.ret false)
 else
 some (.next ())) 0 (s_0.p.Edges.length:Int) ()) (fun _=>
 some true) (fun v0=>some v0)
def DG [Ev] (s_0:AO) (l:List Int) (n:Int):Option Bool:=
 thenR (FB (ρ:=Bool) (fun (s0:Int)=>
 if ((decide (s0<(l.length:Int)))&&s_0.injective)=true then
 (AH l s0).bind fun x22=>
 if (decide (x22=n))=true then
 some (.ret true)
 else
 some (.next (AI (s0+1)))
 else
 some (.brk s0)) 0) (fun s0=>
 some false) (fun v0=>some v0)
def CN [Ev]:Nat->AO->(List Int)->(List Int)->Option AO
 | 0,_,_,_=>none
 | n+1,s_0,nodes,l=>
  if (decide (s_0.most<(s_0.found.length:Int)))=true then
  some s_0
  else
  if (decide ((l.length:Int)=(s_0.p.Edges.length:Int)))=true then
  (A3 [] nodes).bind fun x37=>
  (A3 [] l).bind fun x40=>
  (A3 s_0.found [Morphism.mk x37 x40]).bind fun x43=>
  some (AO.mk s_0.t s_0.p s_0.g s_0.partial_ s_0.injective s_0.most x43)
  else
  (AH s_0.p.Edges (l.length:Int)).bind fun x52=>
  thenR (FB (ρ:=AO) (fun (s0:AO × Int)=>
  if (decide (s0.2<(s0.1.g.Edges.length:Int)))=true then
  (AH s0.1.g.Edges s0.2).bind fun x70=>
  (AH s0.1.partial_.Edges (l.length:Int)).bind fun x78=>
  (if (decide (0<=x78))=true then ((AH s0.1.partial_.Edges (l.length:Int)).bind fun x88=>
  some (!decide (x88=s0.2))) else some false).bind fun x92=>
  (if x92=true then some true else ((DG s0.1 l s0.2).bind fun x97=>
  some (x97))).bind fun x98=>
  (if (x98||(!decide (x52.Type'=x70.Type')))=true then some true else ((AH nodes x52.From).bind fun x112=>
  some (!decide (x70.From=x112)))).bind fun x115=>
  (if x115=true then some true else ((AH nodes x52.To).bind fun x122=>
  some (!decide (x70.To=x122)))).bind fun x125=>
  if x125=true then
  some (.next (s0.1,AI (s0.2+1)))
  else
  (A3 [] l).bind fun x130=>
  (A3 x130 [s0.2]).bind fun x133=>
  (CN n s0.1 nodes x133).bind fun x134=>
  some (.next (x134,AI (s0.2+1)))
  else
  some (.brk (s0.1,s0.2))) (s_0,0)) (fun s0=>
  some s0.1) (fun v0=>some v0)
def LN [Ev] (s_0:AO) (nodes:List Int) (l:List Int):Option AO:=J7 fun n=>CN n s_0 nodes l
def CO [Ev]:Nat->AO->(List Int)->Option AO
 | 0,_,_=>none
 | n+1,s_0,l=>
  (if (decide (s_0.most<(s_0.found.length:Int)))=true then some true else ((FX s_0 l).bind fun x19=>
  some (!x19))).bind fun x21=>
  if x21=true then
  some s_0
  else
  if (decide ((l.length:Int)=(s_0.p.Nodes.length:Int)))=true then
  (LN s_0 l []).bind fun x34=>
  some x34
  else
  thenR (FB (ρ:=AO) (fun (s0:AO × Int)=>
  if (decide (s0.2<(s0.1.g.Nodes.length:Int)))=true then
  (AH s0.1.partial_.Nodes (l.length:Int)).bind fun x51=>
  (if (decide (0<=x51))=true then ((AH s0.1.partial_.Nodes (l.length:Int)).bind fun x61=>
  some (!decide (x61=s0.2))) else some false).bind fun x65=>
  (if x65=true then some true else ((DG s0.1 l s0.2).bind fun x70=>
  some (x70))).bind fun x71=>
  (if x71=true then some true else ((AH s0.1.g.Nodes s0.2).bind fun x83=>
  (AH s0.1.p.Nodes (l.length:Int)).bind fun x91=>
  (G8 s0.1.t x83 x91).bind fun x93=>
  some (!x93))).bind fun x95=>
  if x95=true then
  some (.next (s0.1,AI (s0.2+1)))
  else
  (A3 [] l).bind fun x99=>
  (A3 x99 [s0.2]).bind fun x102=>
  (CO n s0.1 x102).bind fun x103=>
  some (.next (x103,AI (s0.2+1)))
  else
  some (.brk (s0.1,s0.2))) (s_0,0)) (fun s0=>
  some s0.1) (fun v0=>some v0)
def I0 [Ev] (s_0:AO) (l:List Int):Option AO:=J7 fun n=>CO n s_0 l
def Mz [Ev] (t:Types) (p:Graph) (g:Graph) (partial_:Morphism) (injective:Bool) (most:Int):Option (List Morphism):=
 (I0 (AO.mk t p g partial_ injective most []) []).bind fun x23=>
 some x23.found
def L6 [Ev] (p:Graph):Option Morphism:=
 (J8 (p.Nodes.length:Int) 0).bind fun x9=>
 (J8 (p.Edges.length:Int) 0).bind fun x13=>
 thenR (FB (ρ:=Morphism) (fun (s0:Morphism × Int)=>
 if (decide (s0.2<(s0.1.Nodes.length:Int)))=true then
 (AH s0.1.Nodes s0.2).bind fun x25=>
 some (.next (Morphism.mk (CP s0.1.Nodes s0.2 (-1)) s0.1.Edges,AI (s0.2+1)))
 else
 some (.brk (s0.1,s0.2))) (Morphism.mk x9 x13,0)) (fun s0=>
 thenR (FB (ρ:=Morphism) (fun (s2:Morphism × Int)=>
 if (decide (s2.2<(s2.1.Edges.length:Int)))=true then
 (AH s2.1.Edges s2.2).bind fun x36=>
 some (.next (Morphism.mk s2.1.Nodes (CP s2.1.Edges s2.2 (-1)),AI (s2.2+1)))
 else
 some (.brk (s2.1,s2.2))) (s0.1,0)) (fun s2=>
 some s2.1) (fun v2=>some v2)) (fun v0=>some v0)
def My [Ev] (t:Types) (p:Graph) (g:Graph) (injective:Bool):Option (List Morphism × Int):=
 (Jw t p g).bind fun x15=>
 if (!decide (x15=0))=true then
 some ([],x15)
 else
 (L6 p).bind fun x23=>
 (Mz t p g x23 injective 5000).bind fun x25=>
 if (decide (5000<(x25.length:Int)))=true then
 some ([],3)
 else
 some (x25,0)
def Jy (x_0:Term) (BB:List Int):Option Int:=
 if (decide (x_0.Var<0))=true then
 some x_0.Add
 else
 (AH BB x_0.Var).bind fun x13=>
 some (AI (x13+x_0.Add))
def Jq (t:Term) (BB:List Int):Option (Int × Bool):=
 if (decide (t.Var=(-1)))=true then
 some (t.Add,true)
 else
 if ((decide (t.Var<0))||(decide ((BB.length:Int)<=t.Var)))=true then
 some (0,false)
 else
 (AH BB t.Var).bind fun x24=>
 some (AI (x24+t.Add),true)
def K0 (x_0:Test) (BB:List Int):Option Bool:=
 (Jq x_0.Left BB).bind fun x13=>
 (Jq x_0.Right BB).bind fun x20=>
 if ((!x13.2)||(!x20.2))=true then
 some false
 else
 some (((decide (x_0.Kind=1))&&(decide (x13.1<=x20.1)))||((decide (x_0.Kind=2))&&(decide (x13.1=x20.1))))
def I9 (p:Pattern) (h_1:AY) (m:Morphism):Option (List Int × Int):=
 (J8 p.Vars 0).bind fun x17=>
 (J8 p.Vars false).bind fun x20=>
 thenR (forR (ρ:=(List Int × Int)) (fun (i0:Int) (s0:List Int × List Bool)=>
 (AH p.Slots i0).bind fun x31=>
 (AH m.Nodes x31.Node).bind fun x39=>
 (AH h_1.Values x39).bind fun x41=>
 (AH x41 x31.Attr).bind fun x45=>
 (if (decide (0<=x31.Term.Var))=true then ((AH s0.2 x31.Term.Var).bind fun x55=>
 some (!x55)) else some false).bind fun x58=>
 if x58=true then
 (AH s0.2 x31.Term.Var).bind fun x61=>
 (AH s0.1 x31.Term.Var).bind fun x69=>
 (Jy x31.Term (CP s0.1 x31.Term.Var (AI (x45 - x31.Term.Add)))).bind fun x73=>
 if (!decide (x73=x45))=true then
 some (.ret ([],11))
 else
 some (.next (CP s0.1 x31.Term.Var (AI (x45 - x31.Term.Add)),CP s0.2 x31.Term.Var true))
 else
 (Jy x31.Term s0.1).bind fun x73=>
 if (!decide (x73=x45))=true then
 some (.ret ([],11))
 else
 some (.next (s0.1,s0.2))) 0 (p.Slots.length:Int) (x17,x20)) (fun s0=>
 thenR (forR (ρ:=(List Int × Int)) (fun (i2:Int) (_:Unit)=>
 (AH p.Tests i2).bind fun x86=>
 (K0 x86 s0.1).bind fun x89=>
 if (!x89)=true then
 some (.ret ([],16))
 else
 some (.next ())) 0 (p.Tests.length:Int) ()) (fun _=>
 some (s0.1,0)) (fun v2=>some v2)) (fun v0=>some v0)
def Jk [Ev] (t:Types) (p:Pattern) (h_2:AY) (injective:Bool):Option (List AL × Int):=
 (K6 t p h_2).bind fun x20=>
 if (!decide (x20=0))=true then
 some ([],x20)
 else
 (My t p.Graph h_2.Graph injective).bind fun x31=>
 if (!decide (x31.2=0))=true then
 some ([],x31.2)
 else
 (forA (fun (i0:Int) (s0:List AL)=>
 (AH x31.1 i0).bind fun x48=>
 (I9 p h_2 x48).bind fun x50=>
 if (decide (x50.2=0))=true then
 (AH x31.1 i0).bind fun x58=>
 (A3 s0 [AL.mk x58 x50.1]).bind fun x63=>
 some x63
 else
 some s0) 0 (x31.1.length:Int) []).bind fun s0=>
 some (s0,0)
def Lr [Ev] (d:GY) (injective:Bool):Option (Types × KY × AY × List AL × Bool):=
 (Lx d.Types d.Ends).bind fun x19=>
 (L7 x19 d.P).bind fun x23=>
 (if (decide (3<(AI ((x23.Graph.Nodes.length:Int)+(x23.Graph.Edges.length:Int)))))=true then some true else ((FU x19 x23).bind fun x41=>
 some (!decide (x41=0)))).bind fun x43=>
 if x43=true then
 some (x19,KY.mk x23 (AA.mk 0 [] (Morphism.mk [] []) (Pattern.mk (Graph.mk [] []) [] 0 [])),AY.mk (Graph.mk [] []) [],[],false)
 else
 (Kc x19 x23 d.C).bind fun x52=>
 (slc d.H.Nodes 0 (min (d.H.Nodes.length:Int) 5)).bind fun x62=>
 (slc d.H.Edges 0 (min (d.H.Edges.length:Int) 6)).bind fun x71=>
 (L3 x19 (Iq.mk x62 x71)).bind fun x79=>
 (Jk x19 x23 x79 injective).bind fun x86=>
 (if ((decide (x86.2=0))&&(decide ((x86.1.length:Int)<=30)))=true then ((Hu x19 x23 x52).bind fun x102=>
 some (decide (x102=0))) else some false).bind fun x104=>
 (if x104=true then ((Is x19 x23 x52 x79).bind fun x112=>
 some (x112)) else some false).bind fun x113=>
 some (x19,KY.mk x23 x52,x79,x86.1,x113)
def GX [Ev] (d:GY) (injective:Bool):Option Bool:=
 (FR).bind fun x26=>
 if (!x26)=true then
 some false
 else
 (Lr d injective).bind fun x31=>
 if (!x31.2.2.2.2)=true then
 some true
 else
 (slc d.D 0 (min (d.D.length:Int) 12)).bind fun x48=>
 (Kc x31.1 x31.2.1.P x48).bind fun x49=>
 (some x31.2.1.C).bind fun x51=>
 (some (AA.mk 3 [x51,x49] (Morphism.mk [] []) (Pattern.mk (Graph.mk [] []) [] 0 []))).bind fun x54=>
 (some x31.2.1.C).bind fun x56=>
 (some (AA.mk 4 [x56,x49] (Morphism.mk [] []) (Pattern.mk (Graph.mk [] []) [] 0 []))).bind fun x59=>
 (some (AA.mk 2 [x59] (Morphism.mk [] []) (Pattern.mk (Graph.mk [] []) [] 0 []))).bind fun x62=>
 (Hu x31.1 x31.2.1.P x62).bind fun x67=>
 (if (!decide (x67=0))=true then some true else ((Is x31.1 x31.2.1.P x62 x31.2.2.1).bind fun x75=>
 some (!x75))).bind fun x77=>
 if x77=true then
 some true
 else
 thenR (forR (ρ:=Bool) (fun (i0:Int) (_:Unit)=>
 (AH x31.2.2.2.1 i0).bind fun x82=>
 (BU x31.1 x31.2.1.P x31.2.1.C x31.2.2.1 x82 injective).bind fun x93=>
 (BU x31.1 x31.2.1.P x49 x31.2.2.1 x82 injective).bind fun x104=>
 (BU x31.1 x31.2.1.P x54 x31.2.2.1 x82 injective).bind fun x115=>
 (BU x31.1 x31.2.1.P x59 x31.2.2.1 x82 injective).bind fun x126=>
 (BU x31.1 x31.2.1.P x62 x31.2.2.1 x82 injective).bind fun x137=>
 if ((((((((!decide (x93.2=0))||(!decide (x104.2=0)))||(!decide (x115.2=0)))||(!decide (x126.2=0)))||(!decide (x137.2=0)))||(!(x115.1==(x93.1&&x104.1))))||(!(x126.1==(x93.1||x104.1))))||(x137.1==x126.1))=true then
 some (.ret false)
 else
 some (.next ())) 0 (x31.2.2.2.1.length:Int) ()) (fun _=>
 some true) (fun v0=>some v0)
end
end Go.Sf.Sc
