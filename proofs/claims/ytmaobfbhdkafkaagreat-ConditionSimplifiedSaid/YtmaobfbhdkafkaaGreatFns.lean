/- The functions of the program as Lean functions. -/
import Derived.Test.YtmaobfbhdkafkaaGreatTypes
import Derived.Test.YtmaobfbhdkafkaaGreatSfSort
set_option maxRecDepth 100000
namespace Go.Sf.Sc
open Go Go.Sf
noncomputable section
def Ky (c:Int):Option Bool:=
 some (((decide (97<=c))&&(decide (c<=122)))||((decide (65<=c))&&(decide (c<=90))))
def ID [Ev] (s_0:ByteArray) (ok:Int->Option Bool):Option Int:=
 thenR (FP (ρ:=Int) (fun (s0:Int)=>
 (if (decide (s0<(s_0.size:Int)))=true then ((sidx s_0 s0).bind fun x14=>
 (ok x14).bind fun x15=>
 some (x15)) else some false).bind fun x16=>
 if x16=true then
 some (.next (AJ (s0+1)))
 else
 some (.brk s0)) 0) (fun s0=>
 some s0) (fun v0=>some v0)
def KV (c:Int):Option Bool:=
 some ((decide (48<=c))&&(decide (c<=57)))
def Mk (c:Int):Option Bool:=
 (Ky c).bind fun x4=>
 (if x4=true then some true else ((KV c).bind fun x7=>
 some (x7))).bind fun x8=>
 some (x8||(decide (c=95)))
def LC (c:Int):Option Bool:=
 some (((decide (32<=c))&&(decide (c<=126)))&&(!decide (c=34)))
def HZ [Ev] (s_0:ByteArray):Option (Int × Int):=
 (sslc s_0 1 s_0.size).bind fun x6=>
 (ID x6 LC).bind fun x7=>
 (if (decide ((AJ (1+x7))=(s_0.size:Int)))=true then some true else ((sidx s_0 (AJ (1+x7))).bind fun x17=>
 some (!decide (x17=34)))).bind fun x19=>
 if x19=true then
 some (0,2)
 else
 if (decide (60<x7))=true then
 some (0,3)
 else
 some (AJ (x7+2),0)
def G2 (s_0:List ByteArray) (v_1:ByteArray):Option Int:=
 thenR (forR (ρ:=Int) (fun (i0:Int) (_:Unit)=>
 (AH s_0 i0).bind fun x14=>
 if (v_1==x14)=true then
 some (.ret i0)
 else
 some (.next ())) 0 (s_0.length:Int) ()) (fun _=>
 some (-1)) (fun v0=>some v0)
def D9 (s_0:List ByteArray) (v_1:ByteArray):Option Bool:=
 (G2 s_0 v_1).bind fun x7=>
 some (decide (0<=x7))
def Mj (s_0:ByteArray):Option Bool:=
 (if (decide (2<=(s_0.size:Int)))=true then ((sslc s_0 0 2).bind fun x9=>
 (D9 [(⟨#[45,62]⟩:ByteArray),(⟨#[60,61]⟩:ByteArray),(⟨#[62,61]⟩:ByteArray),(⟨#[61,61]⟩:ByteArray),(⟨#[33,61]⟩:ByteArray)] x9).bind fun x10=>
 some (x10)) else some false).bind fun x11=>
 some x11
def strings_IndexByte (s:ByteArray) (c:Int):Option Int:=some (Go.Lib.indexByte s.data.toList c.toNat.toUInt8)
def I3 [Ev] (s_0:ByteArray):Option (Int × Int × Int):=
 (sidx s_0 0).bind fun x11=>
 (Ky x11).bind fun x14=>
 if x14=true then
 (ID s_0 Mk).bind fun x16=>
 if (decide (20<x16))=true then
 some (0,0,3)
 else
 some (1,x16,0)
 else
 (KV x11).bind fun x22=>
 if x22=true then
 (ID s_0 KV).bind fun x24=>
 if (decide (9<x24))=true then
 some (0,0,3)
 else
 some (2,x24,0)
 else
 if (decide (x11=34))=true then
 (HZ s_0).bind fun x33=>
 some (3,x33.1,x33.2)
 else
 (Mj s_0).bind fun x40=>
 if x40=true then
 some (4,2,0)
 else
 (strings_IndexByte (⟨#[123,125,40,41,91,93,44,59,58,61,43,45,42,60,62,33,38,124,46,63]⟩:ByteArray) x11).bind fun x43=>
 if (decide (0<=x43))=true then
 some (4,1,0)
 else
 some (0,0,2)
def JE [Ev] (t:FK):Option (ByteArray × Bool):=
 (if (decide (t.Kind=3))=true then
 (RT (⟨#[34]⟩:ByteArray) t.Text).bind fun x14=>
 (RT x14 (⟨#[34]⟩:ByteArray)).bind fun x15=>
 some x15
 else
 some t.Text).bind fun w1=>
 if (w1==(⟨#[]⟩:ByteArray))=true then
 some ((⟨#[]⟩:ByteArray),false)
 else
 (I3 w1).bind fun x20=>
 some (w1,((decide (x20.2.2=0))&&(decide (x20.1=t.Kind)))&&(decide (x20.2.1=(w1.size:Int))))
def ES [Ev] (s_0:ByteArray):Option Bool:=
 (JE (FK.mk 1 s_0 0)).bind fun x8=>
 some x8.2
def DU [Ev] (s_0:List BI) (f:BI->Option Bool):Option Int:=
 thenR (forR (ρ:=Int) (fun (i0:Int) (_:Unit)=>
 (AH s_0 i0).bind fun x14=>
 (f x14).bind fun x16=>
 if x16=true then
 some (.ret i0)
 else
 some (.next ())) 0 (s_0.length:Int) ()) (fun _=>
 some (-1)) (fun v0=>some v0)
def CQ [Ev] (s_0:List BI) (f:BI->Option Bool):Option Bool:=
 (DU s_0 f).bind fun x7=>
 some (decide (0<=x7))
def Mn (m:BI) (c0:BI):Option Bool:=
 some (m.Name==c0.Name)
def DY [Ev]:Nat->Types->Int->Option (List Attr)
 | 0,_,_=>none
 | n+1,t,a=>
  (AH t.Nodes a).bind fun x10=>
  (if (decide (0<=x10.Parent))=true then
  (DY n t x10.Parent).bind fun x17=>
  some x17
  else
  some []).bind fun w1=>
  (AH t.Nodes a).bind fun x22=>
  (AX w1 x22.Attrs).bind fun x25=>
  some x25
def KW [Ev] (t:Types) (a:Int):Option (List Attr):=Jg fun n=>DY n t a
def EJ [Ev] (s_0:List Attr) (f:Attr->Option Bool):Option Int:=
 thenR (forR (ρ:=Int) (fun (i0:Int) (_:Unit)=>
 (AH s_0 i0).bind fun x14=>
 (f x14).bind fun x16=>
 if x16=true then
 some (.ret i0)
 else
 some (.next ())) 0 (s_0.length:Int) ()) (fun _=>
 some (-1)) (fun v0=>some v0)
def DF [Ev] (s_0:List Attr) (f:Attr->Option Bool):Option Bool:=
 (EJ s_0 f).bind fun x7=>
 some (decide (0<=x7))
def JP (y:Attr) (c0:Attr):Option Bool:=
 some (y.Name==c0.Name)
def IF [Ev] (l:List ByteArray):Option Int:=
 if (decide (20<(l.length:Int)))=true then
 some 3
 else
 thenR (forR (ρ:=Int) (fun (i0:Int) (_:Unit)=>
 (AH l i0).bind fun x13=>
 (ES x13).bind fun x17=>
 if (!x17)=true then
 some (.ret 2)
 else
 (slc l 0 i0).bind fun x22=>
 (D9 x22 x13).bind fun x24=>
 if x24=true then
 some (.ret 5)
 else
 some (.next ())) 0 (l.length:Int) ()) (fun _=>
 some 0) (fun v0=>some v0)
def FE [Ev] (x_0:Attr) (before:List Attr):Option Int:=
 (ES x_0.Name).bind fun x10=>
 if (!x10)=true then
 some 2
 else
 (DF before (fun y0=>JP y0 x_0)).bind fun x15=>
 if x15=true then
 some 5
 else
 (IF x_0.Names).bind fun x18=>
 if (!decide (x18=0))=true then
 some x18
 else
 (if (decide (0<(x_0.Names.length:Int)))=true then
 some ((decide (x_0.Low=0))&&(decide (x_0.High=(AJ ((x_0.Names.length:Int) - 1)))))
 else
 some (((decide ((-1000000)<=x_0.Low))&&(decide (x_0.Low<=x_0.High)))&&(decide (x_0.High<=1000000)))).bind fun w1=>
 if (!w1)=true then
 some 6
 else
 some 0
def I6 [Ev] (t:Types) (i_1:Int):Option Int:=
 (AH t.Nodes i_1).bind fun x12=>
 (ES x12.Name).bind fun x17=>
 if (!x17)=true then
 some 2
 else
 (slc t.Nodes 0 i_1).bind fun x23=>
 (CQ x23 (fun y0=>Mn y0 x12)).bind fun x25=>
 if x25=true then
 some 5
 else
 if ((decide (x12.Parent<(-1)))||(decide (i_1<=x12.Parent)))=true then
 some 6
 else
 if (decide (4<(x12.Attrs.length:Int)))=true then
 some 3
 else
 (KW t i_1).bind fun x43=>
 if (decide (8<(x43.length:Int)))=true then
 some 3
 else
 thenR (forR (ρ:=Int) (fun (i1:Int) (_:Unit)=>
 (AH x43 i1).bind fun x61=>
 (slc x43 0 i1).bind fun x65=>
 (FE x61 x65).bind fun x66=>
 if (!decide (x66=0))=true then
 some (.ret x66)
 else
 some (.next ())) (AJ ((x43.length:Int) - (x12.Attrs.length:Int))) (x43.length:Int) ()) (fun _=>
 some 0) (fun v1=>some v1)
def Kz (n:Int) (c0:Types):Option Bool:=
 some ((decide (0<=n))&&(decide (n<(c0.Nodes.length:Int))))
def DT [Ev] (s_0:List CO) (f:CO->Option Bool):Option Int:=
 thenR (forR (ρ:=Int) (fun (i0:Int) (_:Unit)=>
 (AH s_0 i0).bind fun x14=>
 (f x14).bind fun x16=>
 if x16=true then
 some (.ret i0)
 else
 some (.next ())) 0 (s_0.length:Int) ()) (fun _=>
 some (-1)) (fun v0=>some v0)
def CP [Ev] (s_0:List CO) (f:CO->Option Bool):Option Bool:=
 (DT s_0 f).bind fun x7=>
 some (decide (0<=x7))
def Mm (y:CO) (c0:CO):Option Bool:=
 some (y.Name==c0.Name)
def KF (low:Int) (high:Int):Option Bool:=
 some (((decide (0<=low))&&(decide (low<=40)))&&((decide (high=(-1)))||((decide (low<=high))&&(decide (high<=40)))))
def I5 [Ev] (t:Types) (i_1:Int):Option Int:=
 (AH t.Edges i_1).bind fun x10=>
 (ES x10.Name).bind fun x16=>
 if (!x16)=true then
 some 2
 else
 (slc t.Edges 0 i_1).bind fun x22=>
 (CP x22 (fun y0=>Mm y0 x10)).bind fun x24=>
 if x24=true then
 some 5
 else
 (Kz x10.From t).bind fun x29=>
 (if (!x29)=true then some true else ((Kz x10.To t).bind fun x35=>
 some (!x35))).bind fun x37=>
 (if x37=true then
 some x37
 else
 (KF x10.OutLow x10.OutHigh).bind fun x42=>
 (if (!x42)=true then some true else ((KF x10.InLow x10.InHigh).bind fun x49=>
 some (!x49))).bind fun x51=>
 some x51).bind fun w1=>
 if w1=true then
 some 6
 else
 some 0
def FJ [Ev] (t:Types):Option (ByteArray × Int):=
 if (decide ((t.Nodes.length:Int)=0))=true then
 some ((⟨#[]⟩:ByteArray),7)
 else
 if ((decide (12<(t.Nodes.length:Int)))||(decide (20<(t.Edges.length:Int))))=true then
 some ((⟨#[]⟩:ByteArray),3)
 else
 thenR (forR (ρ:=(ByteArray × Int)) (fun (i1:Int) (_:Unit)=>
 (AH t.Nodes i1).bind fun x32=>
 (I6 t i1).bind fun x36=>
 if (!decide (x36=0))=true then
 some (.ret (x32.Name,x36))
 else
 some (.next ())) 0 (t.Nodes.length:Int) ()) (fun _=>
 thenR (forR (ρ:=(ByteArray × Int)) (fun (i3:Int) (_:Unit)=>
 (AH t.Edges i3).bind fun x49=>
 (I5 t i3).bind fun x53=>
 if (!decide (x53=0))=true then
 some (.ret (x49.Name,x53))
 else
 some (.next ())) 0 (t.Edges.length:Int) ()) (fun _=>
 some ((⟨#[]⟩:ByteArray),0)) (fun v3=>some v3)) (fun v1=>some v1)
def EZ [Ev] (s_0:List Int) (f:Int->Option Bool):Option Int:=
 thenR (forR (ρ:=Int) (fun (i0:Int) (_:Unit)=>
 (AH s_0 i0).bind fun x14=>
 (f x14).bind fun x16=>
 if x16=true then
 some (.ret i0)
 else
 some (.next ())) 0 (s_0.length:Int) ()) (fun _=>
 some (-1)) (fun v0=>some v0)
def BM [Ev] (s_0:List Int) (f:Int->Option Bool):Option Bool:=
 (EZ s_0 f).bind fun x7=>
 some (decide (0<=x7))
def EK [Ev] (s_0:List BX) (f:BX->Option Bool):Option Int:=
 thenR (forR (ρ:=Int) (fun (i0:Int) (_:Unit)=>
 (AH s_0 i0).bind fun x14=>
 (f x14).bind fun x16=>
 if x16=true then
 some (.ret i0)
 else
 some (.next ())) 0 (s_0.length:Int) ()) (fun _=>
 some (-1)) (fun v0=>some v0)
def BV [Ev] (s_0:List BX) (f:BX->Option Bool):Option Bool:=
 (EK s_0 f).bind fun x7=>
 some (decide (0<=x7))
def IR (n:Int) (most:Int):Option Bool:=
 some ((decide (0<=n))&&(decide (n<=most)))
def Lk (t:Int):Option Bool:=
 (IR t 99).bind fun x4=>
 some (!x4)
def MO (e:BX) (nodes:Int):Option Bool:=
 (IR e.Type' 99).bind fun x7=>
 (if x7=true then ((IR e.From (AJ (nodes - 1))).bind fun x13=>
 some (x13)) else some false).bind fun x14=>
 (if x14=true then ((IR e.To (AJ (nodes - 1))).bind fun x20=>
 some (x20)) else some false).bind fun x21=>
 some x21
def Ll (e:BX) (c0:Graph):Option Bool:=
 (MO e (c0.Nodes.length:Int)).bind fun x8=>
 some (!x8)
def D8 [Ev] (g:Graph):Option Int:=
 if ((decide (40<(g.Nodes.length:Int)))||(decide (80<(g.Edges.length:Int))))=true then
 some 3
 else
 (BM g.Nodes Lk).bind fun x15=>
 if x15=true then
 some 6
 else
 (BV g.Edges (fun y0=>Ll y0 g)).bind fun x19=>
 if x19=true then
 some 6
 else
 some 0
def H1 (n:Int) (c0:Types):Option Bool:=
 some (decide ((c0.Nodes.length:Int)<=n))
def H2 (x_0:BX) (c0:Types):Option Bool:=
 some (decide ((c0.Edges.length:Int)<=x_0.Type'))
def DC (n:Int) (low:Int) (high:Int):Option Bool:=
 some ((decide (low<=n))&&(decide (n<=high)))
def Lq (a:Int) (c0:Types):Option Bool:=
 some ((decide (a<0))||(decide ((c0.Nodes.length:Int)<=a)))
def GA [Ev] (t:Types) (l:List Int):Option Int:=
 (FJ t).bind fun x9=>
 if (!decide (x9.2=0))=true then
 some x9.2
 else
 (BM l (fun y0=>Lq y0 t)).bind fun x17=>
 if x17=true then
 some 6
 else
 some 0
def slices_Clone_string (s_0:List ByteArray):Option (List ByteArray):=
 AX [] s_0
def HH [Ev] (t:Types) (a:Int):Option (List Attr × Int):=
 (GA t [a]).bind fun x12=>
 if (!decide (x12=0))=true then
 some ([],x12)
 else
 (KW t a).bind fun x18=>
 (forA (fun (i0:Int) (s0:List Attr)=>
 (AH s0 i0).bind fun x28=>
 (slices_Clone_string x28.Names).bind fun x31=>
 (AH s0 i0).bind fun x32=>
 some (CT s0 i0 (Attr.mk x32.Name x32.Low x32.High x31))) 0 (x18.length:Int) x18).bind fun s0=>
 some (s0,0)
def FV [Ev] (t:Types) (p:Pattern) (s_2:B4):Option (Attr × Bool):=
 (DC s_2.Node 0 (AJ ((p.Graph.Nodes.length:Int) - 1))).bind fun x17=>
 if (!x17)=true then
 some (Attr.mk (⟨#[]⟩:ByteArray) 0 0 [],false)
 else
 (AH p.Graph.Nodes s_2.Node).bind fun x27=>
 (HH t x27).bind fun x29=>
 (DC s_2.Attr 0 (AJ ((x29.1.length:Int) - 1))).bind fun x37=>
 if (!x37)=true then
 some (Attr.mk (⟨#[]⟩:ByteArray) 0 0 [],false)
 else
 (AH x29.1 s_2.Attr).bind fun x43=>
 some (x43,true)
def Io (n:Int) (t:Term):Option Bool:=
 some ((((decide ((-1)<=t.Var))&&(decide (t.Var<n)))&&(decide ((-1000000)<=t.Add)))&&(decide (t.Add<=1000000)))
def JU (n:Int) (x_1:Test):Option Int:=
 if ((!decide (x_1.Kind=1))&&(!decide (x_1.Kind=2)))=true then
 some 1
 else
 (Io n x_1.Left).bind fun x18=>
 (if (!x18)=true then some true else ((Io n x_1.Right).bind fun x24=>
 some (!x24))).bind fun x26=>
 if x26=true then
 some 6
 else
 some 0
def IP (n:Int) (l:List Test):Option Int:=
 if ((decide (n<0))||(decide (12<n)))=true then
 some 6
 else
 if (decide (40<(l.length:Int)))=true then
 some 3
 else
 thenR (forR (ρ:=Int) (fun (i0:Int) (_:Unit)=>
 (AH l i0).bind fun x21=>
 (JU n x21).bind fun x25=>
 if (!decide (x25=0))=true then
 some (.ret x25)
 else
 some (.next ())) 0 (l.length:Int) ()) (fun _=>
 some 0) (fun v0=>some v0)
def JO (s_0:List Bool) (v_1:Bool):Option Int:=
 thenR (forR (ρ:=Int) (fun (i0:Int) (_:Unit)=>
 (AH s_0 i0).bind fun x14=>
 if (v_1==x14)=true then
 some (.ret i0)
 else
 some (.next ())) 0 (s_0.length:Int) ()) (fun _=>
 some (-1)) (fun v0=>some v0)
def GN (s_0:List Bool) (v_1:Bool):Option Bool:=
 (JO s_0 v_1).bind fun x7=>
 some (decide (0<=x7))
def DZ [Ev] (t:Types) (p:Pattern):Option Int:=
 (FJ t).bind fun x16=>
 if (!decide (x16.2=0))=true then
 some x16.2
 else
 (D8 p.Graph).bind fun x24=>
 if (!decide (x24=0))=true then
 some x24
 else
 (BM p.Graph.Nodes (fun y0=>H1 y0 t)).bind fun x32=>
 (if x32=true then some true else ((BV p.Graph.Edges (fun y0=>H2 y0 t)).bind fun x38=>
 some (x38))).bind fun x39=>
 if x39=true then
 some 13
 else
 (DC p.Vars 0 12).bind fun x42=>
 if (!x42)=true then
 some 6
 else
 if ((decide (10<(p.Slots.length:Int)))||(decide (10<(p.Tests.length:Int))))=true then
 some 3
 else
 (Kf p.Vars false).bind fun x56=>
 thenR (forR (ρ:=Int) (fun (i0:Int) (s0:List Bool)=>
 (AH p.Slots i0).bind fun x62=>
 (FV t p x62).bind fun x68=>
 (if (!x68.2)=true then some true else ((DC x62.Term.Var (-1) (AJ (p.Vars - 1))).bind fun x80=>
 some (!x80))).bind fun x82=>
 (if x82=true then some true else ((DC x62.Term.Add (-1000000) 1000000).bind fun x87=>
 some (!x87))).bind fun x89=>
 if x89=true then
 some (.ret 6)
 else
 if (decide (0<=x62.Term.Var))=true then
 (AH s0 x62.Term.Var).bind fun x98=>
 some (.next (CT s0 x62.Term.Var true))
 else
 some (.next s0)) 0 (p.Slots.length:Int) x56) (fun s0=>
 (IP p.Vars p.Tests).bind fun x104=>
 if (!decide (x104=0))=true then
 some x104
 else
 (GN s0 false).bind fun x109=>
 if x109=true then
 some 9
 else
 some 0) (fun v0=>some v0)
def FW (c:AA):Option Bool:=
 some ((decide ((AJ ((AJ ((AJ ((AJ ((AJ ((c.Map.Nodes.length:Int)+(c.Map.Edges.length:Int)))+(c.Pattern.Graph.Nodes.length:Int)))+(c.Pattern.Graph.Edges.length:Int)))+(c.Pattern.Slots.length:Int)))+(c.Pattern.Tests.length:Int)))=0))&&(decide (c.Pattern.Vars=0)))
def DL [Ev] (s_0:List AA) (f:AA->Option Bool):Option Int:=
 thenR (forR (ρ:=Int) (fun (i0:Int) (_:Unit)=>
 (AH s_0 i0).bind fun x14=>
 (f x14).bind fun x16=>
 if x16=true then
 some (.ret i0)
 else
 some (.next ())) 0 (s_0.length:Int) ()) (fun _=>
 some (-1)) (fun v0=>some v0)
def BC [Ev] (s_0:List AA) (f:AA->Option Bool):Option Bool:=
 (DL s_0 f).bind fun x7=>
 some (decide (0<=x7))
mutual
def BO [Ev]:Nat->AA->Option Bool
 | 0,_=>none
 | n+1,c=>
  (if (decide (c.Kind=1))=true then
  (if (decide ((c.Kids.length:Int)=0))=true then ((FW c).bind fun x16=>
  some (x16)) else some false).bind fun x17=>
  some x17
  else
  if (decide (c.Kind=2))=true then
  (if (decide ((c.Kids.length:Int)=1))=true then ((FW c).bind fun x24=>
  some (x24)) else some false).bind fun x25=>
  some x25
  else
  if (decide (c.Kind=3))=true then
  if (decide (c.Kind=3))=true then
  (if (decide (1<=(c.Kids.length:Int)))=true then ((FW c).bind fun x33=>
  some (x33)) else some false).bind fun x34=>
  some x34
  else
  if (decide (c.Kind=5))=true then
  some (decide ((c.Kids.length:Int)=1))
  else
  some false
  else
  if (decide (c.Kind=4))=true then
  (if (decide (1<=(c.Kids.length:Int)))=true then ((FW c).bind fun x33=>
  some (x33)) else some false).bind fun x34=>
  some x34
  else
  if (decide (c.Kind=5))=true then
  some (decide ((c.Kids.length:Int)=1))
  else
  some false).bind fun w1=>
  (if w1=true then ((BC c.Kids (BR n)).bind fun x43=>
  some (!x43)) else some false).bind fun x45=>
  some x45
def BR [Ev]:Nat->AA->Option Bool
 | 0,_=>none
 | n+1,k=>
  (BO n k).bind fun x4=>
  some (!x4)
end
def GH [Ev] (c:AA):Option Bool:=Jg fun n=>BO n c
def Pg [Ev] (k:AA):Option Bool:=Jg fun n=>BR n k
def CU [Ev]:Nat->AA->Option (Int × Int)
 | 0,_=>none
 | n+1,c=>
  (forA (fun (i0:Int) (s0:Int × Int)=>
  (AH c.Kids i0).bind fun x15=>
  (CU n x15).bind fun x19=>
  some (AJ (s0.1+x19.1),max s0.2 x19.2)) 0 (c.Kids.length:Int) (1,0)).bind fun s0=>
  (if (decide (c.Kind=5))=true then
  some (AJ (s0.2+1))
  else
  some s0.2).bind fun w1=>
  some (s0.1,w1)
def H3 [Ev] (c:AA):Option (Int × Int):=Jg fun n=>CU n c
def EF [Ev] (c:AA):Option Int:=
 (GH c).bind fun x6=>
 if (!x6)=true then
 some 1
 else
 (H3 c).bind fun x10=>
 if ((decide (12<x10.1))||(decide (3<x10.2)))=true then
 some 3
 else
 some 0
def EL [Ev] (s_0:List B4) (f:B4->Option Bool):Option Int:=
 thenR (forR (ρ:=Int) (fun (i0:Int) (_:Unit)=>
 (AH s_0 i0).bind fun x14=>
 (f x14).bind fun x16=>
 if x16=true then
 some (.ret i0)
 else
 some (.next ())) 0 (s_0.length:Int) ()) (fun _=>
 some (-1)) (fun v0=>some v0)
def DG [Ev] (s_0:List B4) (f:B4->Option Bool):Option Bool:=
 (EL s_0 f).bind fun x7=>
 some (decide (0<=x7))
def IX (s_0:B4) (c0:Int):Option Bool:=
 some (decide (s_0.Term.Var=c0))
def EB [Ev] (t:Types) (q:Pattern) (outer:Int):Option Int:=
 (DZ t q).bind fun x11=>
 if (!decide (x11=9))=true then
 some x11
 else
 thenR (FP (ρ:=Int) (fun (s0:Int)=>
 if (decide (s0<q.Vars))=true then
 (DG q.Slots (fun y0=>IX y0 s0)).bind fun x25=>
 if (!x25)=true then
 some (.ret x11)
 else
 some (.next (AJ (s0+1)))
 else
 some (.brk s0)) outer) (fun s0=>
 some 0) (fun v0=>some v0)
def ET [Ev] (a:Graph) (b:Graph) (m:Morphism):Option Int:=
 (D8 a).bind fun x16=>
 if (!decide (x16=0))=true then
 some x16
 else
 (D8 b).bind fun x21=>
 if (!decide (x21=0))=true then
 some x21
 else
 if ((!decide ((m.Nodes.length:Int)=(a.Nodes.length:Int)))||(!decide ((m.Edges.length:Int)=(a.Edges.length:Int))))=true then
 some 20
 else
 thenR (forR (ρ:=Int) (fun (i0:Int) (_:Unit)=>
 (AH m.Nodes i0).bind fun x47=>
 if ((decide (x47<0))||(decide ((b.Nodes.length:Int)<=x47)))=true then
 some (.ret 6)
 else
 (AH b.Nodes x47).bind fun x61=>
 (AH a.Nodes i0).bind fun x66=>
 if (!decide (x61=x66))=true then
 some (.ret 13)
 else
 some (.next ())) 0 (m.Nodes.length:Int) ()) (fun _=>
 thenR (forR (ρ:=Int) (fun (i2:Int) (_:Unit)=>
 (AH m.Edges i2).bind fun x76=>
 if ((decide (x76<0))||(decide ((b.Edges.length:Int)<=x76)))=true then
 some (.ret 6)
 else
 (AH a.Edges i2).bind fun x90=>
 (AH b.Edges x76).bind fun x95=>
 if (!decide (x90.Type'=x95.Type'))=true then
 some (.ret 13)
 else
 (AH m.Nodes x90.From).bind fun x106=>
 (if (!decide (x106=x95.From))=true then some true else ((AH m.Nodes x90.To).bind fun x116=>
 some (!decide (x116=x95.To)))).bind fun x121=>
 if x121=true then
 some (.ret 11)
 else
 some (.next ())) 0 (m.Edges.length:Int) ()) (fun _=>
 some 0) (fun v2=>some v2)) (fun v0=>some v0)
def slices_Clone_int (s_0:List Int):Option (List Int):=
 AX [] s_0
def slices_Sort_int (l:List Int):Option (List Int):=if l.length<=BA then some (PK l) else none
def slices_Compact_int (l:List Int):Option (List Int):=if l.length<=BA then some (Go.Lib.compact l) else none
def Hv (l:List Int):Option Int:=
 (slices_Clone_int l).bind fun x5=>
 (slices_Sort_int x5).bind fun x7=>
 (slices_Compact_int x7).bind fun x9=>
 some (x9.length:Int)
def D1 [Ev] (a:Graph) (b:Graph) (m:Morphism):Option Bool:=
 (ET a b m).bind fun x10=>
 (if (decide (x10=0))=true then ((Hv m.Nodes).bind fun x15=>
 some (decide (x15=(m.Nodes.length:Int)))) else some false).bind fun x20=>
 (if x20=true then ((Hv m.Edges).bind fun x24=>
 some (decide (x24=(m.Edges.length:Int)))) else some false).bind fun x29=>
 some x29
def CE [Ev]:Nat->Types->Pattern->AA->Option Int
 | 0,_,_,_=>none
 | n+1,t,p,c=>
  if (decide (c.Kind=5))=true then
  if (decide (c.Pattern.Vars<p.Vars))=true then
  some 20
  else
  (EB t c.Pattern p.Vars).bind fun x27=>
  if (!decide (x27=0))=true then
  some x27
  else
  (ET p.Graph c.Pattern.Graph c.Map).bind fun x37=>
  if (!decide (x37=0))=true then
  some x37
  else
  (D1 p.Graph c.Pattern.Graph c.Map).bind fun x47=>
  if (!x47)=true then
  some 1
  else
  thenR (forR (ρ:=Int) (fun (i0:Int) (_:Unit)=>
  (AH c.Kids i0).bind fun x55=>
  (CE n t c.Pattern x55).bind fun x60=>
  if (!decide (x60=0))=true then
  some (.ret x60)
  else
  some (.next ())) 0 (c.Kids.length:Int) ()) (fun _=>
  some 0) (fun v0=>some v0)
  else
  thenR (forR (ρ:=Int) (fun (i0:Int) (_:Unit)=>
  (AH c.Kids i0).bind fun x55=>
  (CE n t p x55).bind fun x60=>
  if (!decide (x60=0))=true then
  some (.ret x60)
  else
  some (.next ())) 0 (c.Kids.length:Int) ()) (fun _=>
  some 0) (fun v0=>some v0)
def Jo [Ev] (t:Types) (p:Pattern) (c:AA):Option Int:=Jg fun n=>CE n t p c
def D0 [Ev] (t:Types) (p:Pattern) (c:AA):Option Int:=
 (DZ t p).bind fun x11=>
 if (!decide (x11=0))=true then
 some x11
 else
 (EF c).bind fun x16=>
 if (!decide (x16=0))=true then
 some x16
 else
 (Jo t p c).bind fun x23=>
 some x23
def ER (s1_0:List Int) (s2_1:List Int):Option Bool:=
 if (!decide ((s1_0.length:Int)=(s2_1.length:Int)))=true then
 some false
 else
 thenR (forR (ρ:=Bool) (fun (i0:Int) (_:Unit)=>
 (AH s1_0 i0).bind fun x18=>
 (AH s2_1 i0).bind fun x22=>
 if (!decide (x18=x22))=true then
 some (.ret false)
 else
 some (.next ())) 0 (s1_0.length:Int) ()) (fun _=>
 some true) (fun v0=>some v0)
def Jf [Ev] (t:Types) (kind:Int) (BD:List Int):Option Int:=
 if (decide ((t.Nodes.length:Int)<=kind))=true then
 some 6
 else
 (AH t.Nodes kind).bind fun x19=>
 if x19.Abstract=true then
 some 13
 else
 (HH t kind).bind fun x25=>
 if (!decide ((BD.length:Int)=(x25.1.length:Int)))=true then
 some 20
 else
 thenR (forR (ρ:=Int) (fun (i0:Int) (_:Unit)=>
 (AH x25.1 i0).bind fun x38=>
 (AH BD i0).bind fun x42=>
 (if (decide (x42<x38.Low))=true then some true else ((AH BD i0).bind fun x50=>
 some (decide (x38.High<x50)))).bind fun x55=>
 if x55=true then
 some (.ret 6)
 else
 some (.next ())) 0 (x25.1.length:Int) ()) (fun _=>
 some 0) (fun v0=>some v0)
def IW (s_0:List Int) (v_1:Int):Option Int:=
 thenR (forR (ρ:=Int) (fun (i0:Int) (_:Unit)=>
 (AH s_0 i0).bind fun x14=>
 if (decide (v_1=x14))=true then
 some (.ret i0)
 else
 some (.next ())) 0 (s_0.length:Int) ()) (fun _=>
 some (-1)) (fun v0=>some v0)
def DI (s_0:List Int) (v_1:Int):Option Bool:=
 (IW s_0 v_1).bind fun x7=>
 some (decide (0<=x7))
def slices_Reverse_int (l:List Int):Option (List Int):=if l.length<=BA then some l.reverse else none
def Jz [Ev] (t:Types) (a:Int):Option (List Int):=
 thenR (FP (ρ:=(List Int)) (fun (s0:Int × List Int)=>
 if (decide (0<=s0.1))=true then
 (AX s0.2 [s0.1]).bind fun x17=>
 (AH t.Nodes s0.1).bind fun x11=>
 some (.next (x11.Parent,x17))
 else
 some (.brk (s0.1,s0.2))) (a,[])) (fun s0=>
 (slices_Reverse_int s0.2).bind fun x19=>
 some x19) (fun v0=>some v0)
def JF [Ev] (t:Types) (a:Int) (b:Int):Option Bool:=
 (Jz t a).bind fun x9=>
 (DI x9 b).bind fun x11=>
 some x11
def I4 [Ev] (t:Types) (edge:Int) (from':Int) (to':Int):Option Bool:=
 (GA t [from',to']).bind fun x13=>
 if (((!decide (x13=0))||(decide (edge<0)))||(decide ((t.Edges.length:Int)<=edge)))=true then
 some false
 else
 (AH t.Edges edge).bind fun x31=>
 (JF t from' x31.From).bind fun x34=>
 (if x34=true then ((AH t.Edges edge).bind fun x41=>
 (JF t to' x41.To).bind fun x44=>
 some (x44)) else some false).bind fun x45=>
 some x45
def H6 [Ev] (t:Types) (h_1:A0):Option (Int × Int):=
 (FJ t).bind fun x16=>
 if (!decide (x16.2=0))=true then
 some ((-1),x16.2)
 else
 (D8 h_1.Graph).bind fun x24=>
 if (!decide (x24=0))=true then
 some ((-1),x24)
 else
 if (!decide ((h_1.Values.length:Int)=(h_1.Graph.Nodes.length:Int)))=true then
 some ((-1),20)
 else
 thenR (forR (ρ:=(Int × Int)) (fun (i0:Int) (_:Unit)=>
 (AH h_1.Graph.Nodes i0).bind fun x43=>
 (AH h_1.Values i0).bind fun x50=>
 (Jf t x43 x50).bind fun x52=>
 if (!decide (x52=0))=true then
 some (.ret (i0,x52))
 else
 some (.next ())) 0 (h_1.Graph.Nodes.length:Int) ()) (fun _=>
 thenR (forR (ρ:=(Int × Int)) (fun (i2:Int) (_:Unit)=>
 (AH h_1.Graph.Edges i2).bind fun x65=>
 if (decide ((t.Edges.length:Int)<=x65.Type'))=true then
 some (.ret (i2,6))
 else
 (AH h_1.Graph.Nodes x65.From).bind fun x82=>
 (AH h_1.Graph.Nodes x65.To).bind fun x89=>
 (I4 t x65.Type' x82 x89).bind fun x91=>
 if (!x91)=true then
 some (.ret (i2,13))
 else
 some (.next ())) 0 (h_1.Graph.Edges.length:Int) ()) (fun _=>
 some ((-1),0)) (fun v2=>some v2)) (fun v0=>some v0)
def Kh (n:Int) (c0:Types):Option Bool:=
 some (decide ((c0.Nodes.length:Int)<=n))
def Ki (x_0:BX) (c0:Types):Option Bool:=
 some (decide ((c0.Edges.length:Int)<=x_0.Type'))
def FO [Ev] (t:Types) (g:Graph):Option Bool:=
 (BM g.Nodes (fun y0=>Kh y0 t)).bind fun x8=>
 (if (!x8)=true then ((BV g.Edges (fun y0=>Ki y0 t)).bind fun x14=>
 some (!x14)) else some false).bind fun x16=>
 some x16
def GM [Ev] (t:Types) (p:Graph) (g:Graph):Option Int:=
 (FJ t).bind fun x14=>
 if (!decide (x14.2=0))=true then
 some x14.2
 else
 thenR (forR (ρ:=Int) (fun (i0:Int) (_:Unit)=>
 (AH [p,g] i0).bind fun x26=>
 (D8 x26).bind fun x29=>
 if (!decide (x29=0))=true then
 some (.ret x29)
 else
 some (.next ())) 0 ([p,g].length:Int) ()) (fun _=>
 (FO t p).bind fun x36=>
 (if (!x36)=true then some true else ((FO t g).bind fun x41=>
 some (!x41))).bind fun x43=>
 if x43=true then
 some 13
 else
 some 0) (fun v0=>some v0)
def IE [Ev] (t:Types) (a:Int):Option (List Int × Int):=
 (GA t [a]).bind fun x12=>
 if (!decide (x12=0))=true then
 some ([],x12)
 else
 (forA (fun (i0:Int) (s0:List Int)=>
 (JF t i0 a).bind fun x25=>
 if x25=true then
 (AX s0 [i0]).bind fun x29=>
 some x29
 else
 some s0) 0 (t.Nodes.length:Int) []).bind fun s0=>
 some (s0,0)
def GL [Ev] (t:Types):Option (List (List Bool)):=
 (forA (fun (i0:Int) (s0:List (List Bool))=>
 (Kf (t.Nodes.length:Int) false).bind fun x19=>
 (IE t i0).bind fun x23=>
 (forA (fun (i2:Int) (s2:List Bool)=>
 (AH x23.1 i2).bind fun x30=>
 (AH s2 x30).bind fun x34=>
 some (CT s2 x30 true)) 0 (x23.1.length:Int) x19).bind fun s2=>
 (AX s0 [s2]).bind fun x39=>
 some x39) 0 (t.Nodes.length:Int) []).bind fun s0=>
 some s0
def HV [Ev] (t:Types) (p:Graph) (g:Graph) (m:Morphism):Option Int:=
 if ((!decide ((m.Nodes.length:Int)=(p.Nodes.length:Int)))||(!decide ((m.Edges.length:Int)=(p.Edges.length:Int))))=true then
 some 20
 else
 (GL t).bind fun x33=>
 thenR (forR (ρ:=Int) (fun (i0:Int) (_:Unit)=>
 (AH m.Nodes i0).bind fun x40=>
 if ((decide (x40<0))||(decide ((g.Nodes.length:Int)<=x40)))=true then
 some (.ret 6)
 else
 (AH p.Nodes i0).bind fun x55=>
 (AH x33 x55).bind fun x57=>
 (AH g.Nodes x40).bind fun x62=>
 (AH x57 x62).bind fun x64=>
 if (!x64)=true then
 some (.ret 13)
 else
 some (.next ())) 0 (m.Nodes.length:Int) ()) (fun _=>
 thenR (forR (ρ:=Int) (fun (i2:Int) (_:Unit)=>
 (AH m.Edges i2).bind fun x74=>
 if ((decide (x74<0))||(decide ((g.Edges.length:Int)<=x74)))=true then
 some (.ret 6)
 else
 (AH p.Edges i2).bind fun x88=>
 (AH g.Edges x74).bind fun x93=>
 if (!decide (x88.Type'=x93.Type'))=true then
 some (.ret 13)
 else
 (AH m.Nodes x88.From).bind fun x104=>
 (if (!decide (x104=x93.From))=true then some true else ((AH m.Nodes x88.To).bind fun x114=>
 some (!decide (x114=x93.To)))).bind fun x119=>
 if x119=true then
 some (.ret 11)
 else
 some (.next ())) 0 (m.Edges.length:Int) ()) (fun _=>
 some 0) (fun v2=>some v2)) (fun v0=>some v0)
def IV (l:List Int):Option Bool:=if l.length<=4096 then some (dupB l) else none
def GK [Ev] (t:Types) (p:Graph) (g:Graph) (m:Morphism) (injective:Bool):Option Int:=
 (GM t p g).bind fun x16=>
 if (!decide (x16=0))=true then
 some x16
 else
 (HV t p g m).bind fun x24=>
 if (!decide (x24=0))=true then
 some x24
 else
 (if injective=true then ((IV m.Nodes).bind fun x32=>
 (if x32=true then some true else ((IV m.Edges).bind fun x36=>
 some (x36))).bind fun x37=>
 some (x37)) else some false).bind fun x38=>
 if x38=true then
 some 5
 else
 some 0
def E8 [Ev] (t:Types) (p:Pattern) (h_2:A0):Option Int:=
 (DZ t p).bind fun x12=>
 if (!decide (x12=0))=true then
 some x12
 else
 (H6 t h_2).bind fun x19=>
 some x19.2
def E9 (x_0:Term) (BD:List Int):Option Int:=
 if (decide (x_0.Var<0))=true then
 some x_0.Add
 else
 (AH BD x_0.Var).bind fun x13=>
 some (AJ (x13+x_0.Add))
def Iv (a b c:Int):Option (Int × Int):=if (0<=a∧a<18446744073709551616)∧(0<=b∧b<18446744073709551616)∧0<=c∧c<=1 then some ((a+b+c) % 18446744073709551616,(a+b+c) / 18446744073709551616) else none
def Ht (a:Int) (b:Int):Option (Int × Int):=
 (Iv (IntKind.u64.wrap a) (IntKind.u64.wrap b) 0).bind fun x13=>
 (LS .i64 .shr a 63).bind fun x17=>
 (LS .i64 .shr b 63).bind fun x19=>
 some (AJ ((AJ (x17+x19))+(AJ x13.2)),x13.1)
def FX (t:Term) (c0:List Int):Option (Int × Int × Bool):=
 if (decide (t.Var=(-1)))=true then
 (Ht 0 t.Add).bind fun x17=>
 some (x17.1,x17.2,true)
 else
 if ((decide (t.Var<0))||(decide ((c0.length:Int)<=t.Var)))=true then
 some (0,0,false)
 else
 (AH c0 t.Var).bind fun x37=>
 (Ht x37 t.Add).bind fun x41=>
 some (x41.1,x41.2,true)
def MH (vals:List Int):Option Int:=
 thenR (forR (ρ:=Int) (fun (i0:Int) (_:Unit)=>
 (AH vals i0).bind fun x10=>
 if (!decide (x10=0))=true then
 some (.ret x10)
 else
 some (.next ())) 0 (vals.length:Int) ()) (fun _=>
 some 0) (fun v0=>some v0)
def J8 (x_0:Int):Option Bool:=
 some (!decide (x_0=x_0))
def Il (x_0:Int) (y:Int):Option Int:=
 (J8 x_0).bind fun x8=>
 (J8 y).bind fun x10=>
 if x8=true then
 if x10=true then
 some 0
 else
 some (-1)
 else
 if x10=true then
 some 1
 else
 if (decide (x_0<y))=true then
 some (-1)
 else
 if (decide (y<x_0))=true then
 some 1
 else
 some 0
def Jn (x_0:Int):Option Bool:=
 some (!decide (x_0=x_0))
def Im (x_0:Int) (y:Int):Option Int:=
 (Jn x_0).bind fun x8=>
 (Jn y).bind fun x10=>
 if x8=true then
 if x10=true then
 some 0
 else
 some (-1)
 else
 if x10=true then
 some 1
 else
 if (decide (x_0<y))=true then
 some (-1)
 else
 if (decide (y<x_0))=true then
 some 1
 else
 some 0
def G8 (x_0:Test) (BD:List Int):Option Bool:=
 (FX x_0.Left BD).bind fun x18=>
 (FX x_0.Right BD).bind fun x26=>
 if ((!x18.2.2)||(!x26.2.2))=true then
 some false
 else
 (Il x18.1 x26.1).bind fun x38=>
 (Im x18.2.1 x26.2.1).bind fun x41=>
 (MH [x38,x41]).bind fun x43=>
 some (((decide (x_0.Kind=1))&&(decide (x43<=0)))||((decide (x_0.Kind=2))&&(decide (x43=0))))
def Ii (p:Pattern) (h_1:A0) (m:Morphism):Option (List Int × Int):=
 (Kf p.Vars 0).bind fun x18=>
 (Kf p.Vars false).bind fun x21=>
 thenR (forR (ρ:=(List Int × Int)) (fun (i0:Int) (s0:List Int × List Bool)=>
 (AH p.Slots i0).bind fun x27=>
 (AH m.Nodes x27.Node).bind fun x35=>
 (AH h_1.Values x35).bind fun x37=>
 (AH x37 x27.Attr).bind fun x41=>
 (if (decide (0<=x27.Term.Var))=true then ((AH s0.2 x27.Term.Var).bind fun x51=>
 some (!x51)) else some false).bind fun x54=>
 if x54=true then
 (AH s0.1 x27.Term.Var).bind fun x64=>
 (AH s0.2 x27.Term.Var).bind fun x65=>
 (E9 x27.Term (CT s0.1 x27.Term.Var (AJ (x41 - x27.Term.Add)))).bind fun x69=>
 if (!decide (x69=x41))=true then
 some (.ret ([],11))
 else
 some (.next (CT s0.1 x27.Term.Var (AJ (x41 - x27.Term.Add)),CT s0.2 x27.Term.Var true))
 else
 (E9 x27.Term s0.1).bind fun x69=>
 if (!decide (x69=x41))=true then
 some (.ret ([],11))
 else
 some (.next (s0.1,s0.2))) 0 (p.Slots.length:Int) (x18,x21)) (fun s0=>
 thenR (forR (ρ:=(List Int × Int)) (fun (i2:Int) (_:Unit)=>
 (AH p.Tests i2).bind fun x78=>
 (G8 x78 s0.1).bind fun x82=>
 if (!x82)=true then
 some (.ret ([],16))
 else
 some (.next ())) 0 (p.Tests.length:Int) ()) (fun _=>
 some (s0.1,0)) (fun v2=>some v2)) (fun v0=>some v0)
def E7 [Ev] (t:Types) (p:Pattern) (h_2:A0) (m:Morphism):Option (List Int × Int):=
 (E8 t p h_2).bind fun x15=>
 if (!decide (x15=0))=true then
 some ([],x15)
 else
 (GK t p.Graph h_2.Graph m false).bind fun x25=>
 if (!decide (x25=0))=true then
 some ([],x25)
 else
 (Ii p h_2 m).bind fun x32=>
 some (x32.1,x32.2)
def EE [Ev] (t:Types) (p:Pattern) (c:AA) (h_3:A0) (m:AL) (injective:Bool):Option Int:=
 (D0 t p c).bind fun x22=>
 if (!decide (x22=0))=true then
 some x22
 else
 (H6 t h_3).bind fun x29=>
 if (!decide (x29.2=0))=true then
 some x29.2
 else
 (GK t p.Graph h_3.Graph m.Morphism injective).bind fun x43=>
 if (!decide (x43=0))=true then
 some x43
 else
 (E7 t p h_3 m.Morphism).bind fun x53=>
 if (!decide (x53.2=0))=true then
 some x53.2
 else
 (ER x53.1 m.Vars).bind fun x62=>
 if (!x62)=true then
 some 11
 else
 some 0
def Lp (k:Int) (c0:Int):Option Bool:=
 some ((decide (k<(-1)))||(decide (c0<=k)))
def HE [Ev] (l:List Int) (n:Int):Option Int:=
 (BM l (fun y0=>Lp y0 n)).bind fun x7=>
 if x7=true then
 some 6
 else
 some 0
def IU (l:List Int) (i_1:Int):Option Int:=
 (Ve l).bind fun x6=>
 (AH l i_1).bind fun x9=>
 some x9
def EI (f:AI) (i_1:Int) (k:Int):Option Bool:=
 (AH f.p.Edges i_1).bind fun x15=>
 (IU f.partial_.Edges i_1).bind fun x23=>
 if ((decide (0<=x23))&&(!decide (x23=k)))=true then
 some false
 else
 (AH f.g.Edges k).bind fun x37=>
 (AH f.nodes x15.From).bind fun x47=>
 (AH f.nodes x15.To).bind fun x55=>
 some (decide (x37=(BX.mk x15.Type' x47 x55)))
def CN (f:AI):Option Bool:=
 thenR (forR (ρ:=Bool) (fun (i0:Int) (_:Unit)=>
 (AH f.p.Edges i0).bind fun x23=>
 if (!decide ((max x23.From x23.To)=(AJ ((f.nodes.length:Int) - 1))))=true then
 some (.next ())
 else
 thenR (forR (ρ:=Bool) (fun (i2:Int) (s2:Bool)=>
 (EI f i0 i2).bind fun x44=>
 if x44=true then
 some (.brk true)
 else
 some (.next s2)) 0 (f.g.Edges.length:Int) false) (fun s2=>
 if (!s2)=true then
 some (.ret false)
 else
 some (.next ())) (fun v2=>some (.ret v2))) 0 (f.p.Edges.length:Int) ()) (fun _=>
 some true) (fun v0=>some v0)
def A3 [Ev]:Nat->AI->Option AI
 | 0,_=>none
 | n+1,f=>
  (if (decide ((f.out.length:Int)=f.most))=true then
  some f
  else
  if (decide ((f.nodes.length:Int)<(f.p.Nodes.length:Int)))=true then
  (forA (fun (i1:Int) (s1:AI)=>
  (AH f.g.Nodes i1).bind fun x66=>
  (IU s1.partial_.Nodes (f.nodes.length:Int)).bind fun x74=>
  (if ((decide (0<=x74))&&(!decide (x74=i1)))=true then some true else ((AH s1.p.Nodes (f.nodes.length:Int)).bind fun x93=>
  (AH s1.is x93).bind fun x95=>
  (AH x95 x66).bind fun x98=>
  some (!x98))).bind fun x101=>
  (if x101=true then some true else ((if s1.injective=true then ((DI s1.nodes i1).bind fun x113=>
  some (x113)) else some false).bind fun x114=>
  some (x114))).bind fun x115=>
  if x115=true then
  some s1
  else
  (AX s1.nodes [i1]).bind fun x123=>
  (CN (AI.mk s1.p s1.g s1.is s1.partial_ s1.injective s1.most x123 s1.edges s1.out)).bind fun x127=>
  if x127=true then
  (A3 n (AI.mk s1.p s1.g s1.is s1.partial_ s1.injective s1.most x123 s1.edges s1.out)).bind fun x129=>
  (slc x129.nodes 0 (f.nodes.length:Int)).bind fun x136=>
  some (AI.mk x129.p x129.g x129.is x129.partial_ x129.injective x129.most x136 x129.edges x129.out)
  else
  (slc x123 0 (f.nodes.length:Int)).bind fun x136=>
  some (AI.mk s1.p s1.g s1.is s1.partial_ s1.injective s1.most x136 s1.edges s1.out)) 0 (f.g.Nodes.length:Int) f).bind fun s1=>
  some s1
  else
  if (decide ((f.edges.length:Int)<(f.p.Edges.length:Int)))=true then
  (forA (fun (i3:Int) (s3:AI)=>
  (EI s3 (f.edges.length:Int) i3).bind fun x170=>
  (if (!x170)=true then some true else ((if s3.injective=true then ((DI s3.edges i3).bind fun x183=>
  some (x183)) else some false).bind fun x184=>
  some (x184))).bind fun x185=>
  if x185=true then
  some s3
  else
  (AX s3.edges [i3]).bind fun x193=>
  (A3 n (AI.mk s3.p s3.g s3.is s3.partial_ s3.injective s3.most s3.nodes x193 s3.out)).bind fun x197=>
  (slc x197.edges 0 (f.edges.length:Int)).bind fun x204=>
  some (AI.mk x197.p x197.g x197.is x197.partial_ x197.injective x197.most x197.nodes x204 x197.out)) 0 (f.g.Edges.length:Int) f).bind fun s3=>
  some s3
  else
  (slices_Clone_int f.nodes).bind fun x17=>
  (slices_Clone_int f.edges).bind fun x22=>
  (AX f.out [Morphism.mk x17 x22]).bind fun x25=>
  some (AI.mk f.p f.g f.is f.partial_ f.injective f.most f.nodes f.edges x25)).bind fun w1=>
  some w1
def FU [Ev] (f:AI):Option AI:=Jg fun n=>A3 n f
def HU [Ev] (t:Types) (p:Graph) (g:Graph) (partial_:Morphism) (injective:Bool) (most:Int):Option (List Morphism):=
 (GL t).bind fun x17=>
 (FU (AI.mk p g x17 partial_ injective most [] [] [])).bind fun x24=>
 some x24.out
def Jw [Ev] (t:Types) (p:Graph) (g:Graph) (partial_:Morphism) (injective:Bool):Option (List Morphism × Int):=
 (HU t p g partial_ injective 5001).bind fun x18=>
 if (decide (5000<(x18.length:Int)))=true then
 some ([],3)
 else
 some (x18,0)
def GV [Ev] (t:Types) (p:Graph) (g:Graph) (partial_:Morphism) (injective:Bool):Option (List Morphism × Int):=
 (GM t p g).bind fun x18=>
 if (!decide (x18=0))=true then
 some ([],x18)
 else
 if ((!decide ((partial_.Nodes.length:Int)=(p.Nodes.length:Int)))||(!decide ((partial_.Edges.length:Int)=(p.Edges.length:Int))))=true then
 some ([],20)
 else
 (HE partial_.Nodes (g.Nodes.length:Int)).bind fun x43=>
 if (!decide (x43=0))=true then
 some ([],x43)
 else
 (HE partial_.Edges (g.Edges.length:Int)).bind fun x52=>
 if (!decide (x52=0))=true then
 some ([],x52)
 else
 (Jw t p g partial_ injective).bind fun x61=>
 some (x61.1,x61.2)
def H4 (l:List Int) (n:Int):Option (List Int):=if l.length=1∧0<=n∧n<=4096 then some (List.replicate n.toNat (l.headD 0)) else none
def G7 (n:Int) (AB:List Int) (images:List Int):Option (List Int):=
 (H4 [(-1)] n).bind fun x12=>
 (forA (fun (i0:Int) (s0:List Int)=>
 (AH AB i0).bind fun x18=>
 (AH images i0).bind fun x24=>
 (AH s0 x18).bind fun x26=>
 some (CT s0 x18 x24)) 0 (AB.length:Int) x12).bind fun s0=>
 some s0
def G4 (x_0:Term) (BD:List Int):Option (Int × Int):=
 (DC x_0.Var (-1) (AJ ((BD.length:Int) - 1))).bind fun x11=>
 if (!x11)=true then
 some (0,6)
 else
 (E9 x_0 BD).bind fun x15=>
 some (x15,0)
def EN (s_0:AR) (q:Pattern) (m:Morphism) (given:List Int):Option (List Int × Bool):=
 (slices_Clone_int given).bind fun x22=>
 (R6 x22 (AJ (q.Vars - (given.length:Int))) 0).bind fun x28=>
 (Kf q.Vars false).bind fun x31=>
 (forA (fun (i0:Int) (s0:List Bool)=>
 (AH s0 i0).bind fun x39=>
 some (CT s0 i0 true)) 0 (given.length:Int) x31).bind fun s0=>
 thenR (forR (ρ:=(List Int × Bool)) (fun (i2:Int) (s2:List Int × List Bool)=>
 (AH q.Slots i2).bind fun x46=>
 (AH m.Nodes x46.Node).bind fun x55=>
 (AH s_0.h.Values x55).bind fun x57=>
 (AH x57 x46.Attr).bind fun x61=>
 (if (decide (0<=x46.Term.Var))=true then ((AH s2.2 x46.Term.Var).bind fun x71=>
 some (!x71)) else some false).bind fun x74=>
 if x74=true then
 (AH s2.1 x46.Term.Var).bind fun x84=>
 (AH s2.2 x46.Term.Var).bind fun x85=>
 (G4 x46.Term (CT s2.1 x46.Term.Var (AJ (x61 - x46.Term.Add)))).bind fun x90=>
 if ((!decide (x90.2=0))||(!decide (x90.1=x61)))=true then
 some (.ret ([],false))
 else
 some (.next (CT s2.1 x46.Term.Var (AJ (x61 - x46.Term.Add)),CT s2.2 x46.Term.Var true))
 else
 (G4 x46.Term s2.1).bind fun x90=>
 if ((!decide (x90.2=0))||(!decide (x90.1=x61)))=true then
 some (.ret ([],false))
 else
 some (.next (s2.1,s2.2))) 0 (q.Slots.length:Int) (x28,s0)) (fun s2=>
 thenR (forR (ρ:=(List Int × Bool)) (fun (i4:Int) (_:Unit)=>
 (AH q.Tests i4).bind fun x106=>
 (G8 x106 s2.1).bind fun x110=>
 if (!x110)=true then
 some (.ret ([],false))
 else
 some (.next ())) 0 (q.Tests.length:Int) ()) (fun _=>
 some (s2.1,true)) (fun v4=>some v4)) (fun v2=>some v2)
def BY [Ev] (s_0:AR) (c:AA) (m:AL):Option (List AL × Int):=
 (G7 (c.Pattern.Graph.Nodes.length:Int) c.Map.Nodes m.Morphism.Nodes).bind fun x29=>
 (G7 (c.Pattern.Graph.Edges.length:Int) c.Map.Edges m.Morphism.Edges).bind fun x39=>
 (GV s_0.t c.Pattern.Graph s_0.h.Graph (Morphism.mk x29 x39) s_0.injective).bind fun x51=>
 if (!decide (x51.2=0))=true then
 some ([],x51.2)
 else
 (forA (fun (i0:Int) (s0:List AL)=>
 (AH x51.1 i0).bind fun x61=>
 (EN s_0 c.Pattern x61 m.Vars).bind fun x70=>
 if x70.2=true then
 (AX s0 [AL.mk x61 x70.1]).bind fun x79=>
 some x79
 else
 some s0) 0 (x51.1.length:Int) []).bind fun s0=>
 some (s0,0)
mutual
def AY [Ev]:Nat->AR->AA->AL->Option (A4 × Int)
 | 0,_,_,_=>none
 | n+1,s_0,c,m=>
  if (decide (c.Kind=2))=true then
  (AH c.Kids 0).bind fun x27=>
  (AY n s_0 x27 m).bind fun x30=>
  if (decide (x30.2=0))=true then
  some (A4.mk 0 (AL.mk (Morphism.mk [] []) []) [],10)
  else
  if (decide (x30.2=10))=true then
  some (A4.mk 0 (AL.mk (Morphism.mk [] []) []) [],0)
  else
  some (A4.mk 0 (AL.mk (Morphism.mk [] []) []) [],x30.2)
  else
  if (decide (c.Kind=3))=true then
  thenR (forR (ρ:=(A4 × Int)) (fun (i2:Int) (s2:A4 × A4)=>
  (AH c.Kids i2).bind fun x49=>
  (AY n s_0 x49 m).bind fun x55=>
  if (!decide (x55.2=0))=true then
  some (.ret (A4.mk 0 (AL.mk (Morphism.mk [] []) []) [],x55.2))
  else
  (AX s2.2.Kids [x55.1]).bind fun x66=>
  some (.next (s2.1,A4.mk s2.2.Choice s2.2.Match x66))) 0 (c.Kids.length:Int) (A4.mk 0 (AL.mk (Morphism.mk [] []) []) [],A4.mk 0 (AL.mk (Morphism.mk [] []) []) [])) (fun s2=>
  some (s2.2,0)) (fun v2=>some v2)
  else
  if (decide (c.Kind=4))=true then
  thenR (forR (ρ:=(A4 × Int)) (fun (i4:Int) (s4:A4)=>
  (AH c.Kids i4).bind fun x78=>
  (AY n s_0 x78 m).bind fun x84=>
  if (decide (x84.2=0))=true then
  some (.ret (A4.mk i4 (AL.mk (Morphism.mk [] []) []) [x84.1],0))
  else
  if (!decide (x84.2=10))=true then
  some (.ret (A4.mk 0 (AL.mk (Morphism.mk [] []) []) [],x84.2))
  else
  some (.next s4)) 0 (c.Kids.length:Int) (A4.mk 0 (AL.mk (Morphism.mk [] []) []) [])) (fun s4=>
  some (A4.mk 0 (AL.mk (Morphism.mk [] []) []) [],10)) (fun v4=>some v4)
  else
  if (decide (c.Kind=5))=true then
  (BL n s_0 c m).bind fun x104=>
  some (x104.1,x104.2)
  else
  some (A4.mk 0 (AL.mk (Morphism.mk [] []) []) [],0)
def BL [Ev]:Nat->AR->AA->AL->Option (A4 × Int)
 | 0,_,_,_=>none
 | n+1,s_0,c,m=>
  (BY s_0 c m).bind fun x18=>
  if (!decide (x18.2=0))=true then
  some (A4.mk 0 (AL.mk (Morphism.mk [] []) []) [],x18.2)
  else
  thenR (forR (ρ:=(A4 × Int)) (fun (i0:Int) (s0:A4)=>
  (AH x18.1 i0).bind fun x29=>
  (AH c.Kids 0).bind fun x35=>
  (AY n s_0 x35 x29).bind fun x38=>
  if (decide (x38.2=0))=true then
  some (.ret (A4.mk 0 x29 [x38.1],0))
  else
  if (!decide (x38.2=10))=true then
  some (.ret (A4.mk 0 (AL.mk (Morphism.mk [] []) []) [],x38.2))
  else
  some (.next s0)) 0 (x18.1.length:Int) (A4.mk 0 (AL.mk (Morphism.mk [] []) []) [])) (fun s0=>
  some (A4.mk 0 (AL.mk (Morphism.mk [] []) []) [],10)) (fun v0=>some v0)
end
def DR [Ev] (s_0:AR) (c:AA) (m:AL):Option (A4 × Int):=Jg fun n=>AY n s_0 c m
def Nd [Ev] (s_0:AR) (c:AA) (m:AL):Option (A4 × Int):=Jg fun n=>BL n s_0 c m
def DV [Ev] (t:Types) (p:Pattern) (c:AA) (h_3:A0) (m:AL) (injective:Bool):Option (A4 × Int):=
 (EE t p c h_3 m injective).bind fun x21=>
 if (!decide (x21=0))=true then
 some (A4.mk 0 (AL.mk (Morphism.mk [] []) []) [],x21)
 else
 (DR (AR.mk t h_3 injective) c m).bind fun x32=>
 some (x32.1,x32.2)
def CM [Ev] (t:Types) (p:Pattern) (c:AA) (h_3:A0) (m:AL) (injective:Bool):Option (Bool × Int):=
 (DV t p c h_3 m injective).bind fun x23=>
 if (decide (x23.2=10))=true then
 some (false,0)
 else
 some (decide (x23.2=0),x23.2)
def FF (m:AL):Option Bool:=
 some (decide ((AJ ((AJ ((m.Morphism.Nodes.length:Int)+(m.Morphism.Edges.length:Int)))+(m.Vars.length:Int)))=0))
def EA [Ev] (s_0:List AL) (f:AL->Option Bool):Option Int:=
 thenR (forR (ρ:=Int) (fun (i0:Int) (_:Unit)=>
 (AH s_0 i0).bind fun x14=>
 (f x14).bind fun x16=>
 if x16=true then
 some (.ret i0)
 else
 some (.next ())) 0 (s_0.length:Int) ()) (fun _=>
 some (-1)) (fun v0=>some v0)
def DS [Ev] (s_0:List AL) (f:AL->Option Bool):Option Bool:=
 (EA s_0 f).bind fun x7=>
 some (decide (0<=x7))
def If (a:Morphism) (b:Morphism):Option Bool:=
 (ER a.Nodes b.Nodes).bind fun x9=>
 (if x9=true then ((ER a.Edges b.Edges).bind fun x15=>
 some (x15)) else some false).bind fun x16=>
 some x16
def KX (a:AL) (b:AL):Option Bool:=
 (If a.Morphism b.Morphism).bind fun x9=>
 (if x9=true then ((ER a.Vars b.Vars).bind fun x15=>
 some (x15)) else some false).bind fun x16=>
 some x16
def H5 (x_0:AL) (c0:A4):Option Bool:=
 (KX x_0 c0.Match).bind fun x7=>
 some x7
def BT [Ev]:Nat->AR->AA->AL->A4->Option Bool
 | 0,_,_,_,_=>none
 | n+1,s_0,c,m,w=>
  if (decide (c.Kind=1))=true then
  (if ((decide ((w.Kids.length:Int)=0))&&(decide (w.Choice=0)))=true then ((FF w.Match).bind fun x33=>
  some (x33)) else some false).bind fun x34=>
  some x34
  else
  if (decide (c.Kind=2))=true then
  (AH c.Kids 0).bind fun x41=>
  (DR s_0 x41 m).bind fun x44=>
  (if ((decide ((w.Kids.length:Int)=0))&&(decide (w.Choice=0)))=true then ((FF w.Match).bind fun x57=>
  some (x57)) else some false).bind fun x58=>
  some (x58&&(decide (x44.2=10)))
  else
  if (decide (c.Kind=3))=true then
  (if ((!decide ((w.Kids.length:Int)=(c.Kids.length:Int)))||(!decide (w.Choice=0)))=true then some true else ((FF w.Match).bind fun x78=>
  some (!x78))).bind fun x80=>
  if x80=true then
  some false
  else
  thenR (forR (ρ:=Bool) (fun (i1:Int) (_:Unit)=>
  (AH c.Kids i1).bind fun x87=>
  (AH w.Kids i1).bind fun x95=>
  (BT n s_0 x87 m x95).bind fun x97=>
  if (!x97)=true then
  some (.ret false)
  else
  some (.next ())) 0 (c.Kids.length:Int) ()) (fun _=>
  some true) (fun v1=>some v1)
  else
  if (decide (c.Kind=4))=true then
  (if (((decide ((w.Kids.length:Int)=1))&&(decide (0<=w.Choice)))&&(decide (w.Choice<(c.Kids.length:Int))))=true then ((FF w.Match).bind fun x120=>
  some (x120)) else some false).bind fun x121=>
  (if x121=true then ((AH c.Kids w.Choice).bind fun x128=>
  (AH w.Kids 0).bind fun x133=>
  (BT n s_0 x128 m x133).bind fun x135=>
  some (x135)) else some false).bind fun x136=>
  some x136
  else
  if ((!decide ((w.Kids.length:Int)=1))||(!decide (w.Choice=0)))=true then
  some false
  else
  (BY s_0 c m).bind fun x148=>
  (if (!decide (x148.2=0))=true then some true else ((DS x148.1 (fun y0=>H5 y0 w)).bind fun x156=>
  some (!x156))).bind fun x158=>
  if x158=true then
  some false
  else
  (AH c.Kids 0).bind fun x162=>
  (AH w.Kids 0).bind fun x168=>
  (BT n s_0 x162 w.Match x168).bind fun x170=>
  some x170
def GY [Ev] (s_0:AR) (c:AA) (m:AL) (w:A4):Option Bool:=Jg fun n=>BT n s_0 c m w
def D6 [Ev] (t:Types) (p:Pattern) (c:AA) (h_3:A0) (m:AL) (injective:Bool) (w:A4):Option Bool:=
 (EE t p c h_3 m injective).bind fun x21=>
 (if (decide (x21=0))=true then ((GY (AR.mk t h_3 injective) c m w).bind fun x31=>
 some (x31)) else some false).bind fun x32=>
 some x32
def Nl :Option Types:=
 some (Types.mk [BI.mk (⟨#[65,99,99,111,117,110,116]⟩:ByteArray) (-1) true [Attr.mk (⟨#[98,97,108,97,110,99,101]⟩:ByteArray) (-1000) 1000 []],BI.mk (⟨#[67,97,115,104]⟩:ByteArray) 0 false [],BI.mk (⟨#[76,111,97,110]⟩:ByteArray) 0 false [Attr.mk (⟨#[115,116,97,116,101]⟩:ByteArray) 0 1 [(⟨#[111,112,101,110]⟩:ByteArray),(⟨#[99,108,111,115,101,100]⟩:ByteArray)]],BI.mk (⟨#[80,101,114,115,111,110]⟩:ByteArray) (-1) false []] [CO.mk (⟨#[111,119,110,115]⟩:ByteArray) 3 0 0 (-1) 1 1,CO.mk (⟨#[112,97,121,115]⟩:ByteArray) 1 1 0 (-1) 0 (-1)])
def Nj :Option K6:=
 (some (AA.mk 5 [AA.mk 1 [] (Morphism.mk [] []) (Pattern.mk (Graph.mk [] []) [] 0 [])] (Morphism.mk [0,1] [0]) (Pattern.mk (Graph.mk [3,0,0] [BX.mk 0 0 1,BX.mk 0 0 2]) [B4.mk 1 0 (Term.mk 0 0),B4.mk 2 0 (Term.mk 1 0)] 2 [Test.mk 1 (Term.mk 0 0) (Term.mk 1 0)]))).bind fun x33=>
 some (K6.mk (Pattern.mk (Graph.mk [3,0] [BX.mk 0 0 1]) [B4.mk 1 0 (Term.mk 0 0)] 1 []) x33)
def F6 [Ev] :Option Bool:=
 (Nl).bind fun x10=>
 (Nj).bind fun x11=>
 (DV x10 x11.P x11.C (A0.mk (Graph.mk [3,1,1] [BX.mk 0 0 1,BX.mk 0 0 2]) [[],[10],[5]]) (AL.mk (Morphism.mk [0,2] [1]) [5]) true).bind fun x39=>
 (CM x10 x11.P x11.C (A0.mk (Graph.mk [3,1,1] [BX.mk 0 0 1,BX.mk 0 0 2]) [[],[10],[5]]) (AL.mk (Morphism.mk [0,1] [0]) [10]) true).bind fun x50=>
 (if ((((decide (x39.2=0))&&(decide (x50.2=0)))&&(!x50.1))&&(decide ((x39.1.Match.Vars.length:Int)=2)))=true then ((AH x39.1.Match.Vars 1).bind fun x74=>
 some (decide (x74=10))) else some false).bind fun x77=>
 (if x77=true then ((D6 x10 x11.P x11.C (A0.mk (Graph.mk [3,1,1] [BX.mk 0 0 1,BX.mk 0 0 2]) [[],[10],[5]]) (AL.mk (Morphism.mk [0,2] [1]) [5]) true x39.1).bind fun x87=>
 some (x87)) else some false).bind fun x88=>
 some x88
def HQ [Ev]:Nat->Types->Int->Option (List Attr)
 | 0,_,_=>none
 | n+1,t,a=>
  if (decide (a<0))=true then
  some []
  else
  (AH t.Nodes a).bind fun x12=>
  (HQ n t x12.Parent).bind fun x15=>
  (AX [] x15).bind fun x16=>
  (AH t.Nodes a).bind fun x20=>
  (AX x16 x20.Attrs).bind fun x23=>
  some x23
def NL [Ev] (t:Types) (a:Int):Option (List Attr):=Jg fun n=>HQ n t a
def EC (n:Int) (low:Int) (high:Int):Option Bool:=
 some ((decide (low<=n))&&(decide (n<=high)))
def N3 (t:FK):Option ByteArray:=
 if (decide (t.Kind=3))=true then
 (RT (⟨#[34]⟩:ByteArray) t.Text).bind fun x8=>
 (RT x8 (⟨#[34]⟩:ByteArray)).bind fun x9=>
 some x9
 else
 some t.Text
def Kv (c:Int):Option Bool:=
 some (((decide (97<=c))&&(decide (c<=122)))||((decide (65<=c))&&(decide (c<=90))))
def JA (c:Int):Option Bool:=
 some ((decide (48<=c))&&(decide (c<=57)))
def NV [Ev] (s_0:ByteArray) (AB:Int) (digits:Bool):Option Int:=
 thenR (FP (ρ:=Int) (fun (s0:Int)=>
 (if (decide ((AJ (AB+s0))<(s_0.size:Int)))=true then ((sidx s_0 (AJ (AB+s0))).bind fun x19=>
 (JA x19).bind fun x20=>
 (if x20=true then some true else ((if (!digits)=true then ((sidx s_0 (AJ (AB+s0))).bind fun x29=>
 (Kv x29).bind fun x30=>
 (if x30=true then some true else ((sidx s_0 (AJ (AB+s0))).bind fun x36=>
 some (decide (x36=95)))).bind fun x38=>
 some (x38)) else some false).bind fun x39=>
 some (x39))).bind fun x40=>
 some (x40)) else some false).bind fun x41=>
 if x41=true then
 some (.next (AJ (s0+1)))
 else
 some (.brk s0)) 0) (fun s0=>
 some s0) (fun v0=>some v0)
def Kw [Ev] (s_0:ByteArray) (AB:Int):Option Int:=
 thenR (FP (ρ:=Int) (fun (s0:Int)=>
 if (decide ((AJ (AB+s0))<(s_0.size:Int)))=true then
 (sidx s_0 (AJ (AB+s0))).bind fun x19=>
 if (decide (x19=34))=true then
 some (.ret (AJ (s0+1)))
 else
 if ((decide (x19<32))||(decide (126<x19)))=true then
 some (.ret 0)
 else
 some (.next (AJ (s0+1)))
 else
 some (.brk s0)) 1) (fun s0=>
 some 0) (fun v0=>some v0)
def NK :Option (List ByteArray):=
 some [(⟨#[45,62]⟩:ByteArray),(⟨#[60,61]⟩:ByteArray),(⟨#[62,61]⟩:ByteArray),(⟨#[61,61]⟩:ByteArray),(⟨#[33,61]⟩:ByteArray),(⟨#[123]⟩:ByteArray),(⟨#[125]⟩:ByteArray),(⟨#[40]⟩:ByteArray),(⟨#[41]⟩:ByteArray),(⟨#[91]⟩:ByteArray),(⟨#[93]⟩:ByteArray),(⟨#[44]⟩:ByteArray),(⟨#[59]⟩:ByteArray),(⟨#[58]⟩:ByteArray),(⟨#[61]⟩:ByteArray),(⟨#[43]⟩:ByteArray),(⟨#[45]⟩:ByteArray),(⟨#[42]⟩:ByteArray),(⟨#[60]⟩:ByteArray),(⟨#[62]⟩:ByteArray),(⟨#[33]⟩:ByteArray),(⟨#[38]⟩:ByteArray),(⟨#[124]⟩:ByteArray),(⟨#[46]⟩:ByteArray),(⟨#[63]⟩:ByteArray)]
def NU [Ev] (s_0:ByteArray) (AB:Int):Option (FK × Int × Int):=
 (sidx s_0 AB).bind fun x16=>
 (Kv x16).bind fun x18=>
 (if x18=true then some true else ((JA x16).bind fun x21=>
 some (x21))).bind fun x22=>
 if x22=true then
 (JA x16).bind fun x26=>
 (NV s_0 AB x26).bind fun x27=>
 (JA x16).bind fun x29=>
 (if x29=true then
 some (2,9)
 else
 some (1,20)).bind fun w1=>
 if (decide (w1.2<x27))=true then
 some (FK.mk 0 (⟨#[]⟩:ByteArray) 0,0,3)
 else
 (sslc s_0 AB (AJ (AB+x27))).bind fun x40=>
 some (FK.mk w1.1 x40 0,x27,0)
 else
 if (decide (x16=34))=true then
 (Kw s_0 AB).bind fun x47=>
 if (decide (x47=0))=true then
 some (FK.mk 0 (⟨#[]⟩:ByteArray) 0,0,2)
 else
 if (decide (60<(AJ (x47 - 2))))=true then
 some (FK.mk 0 (⟨#[]⟩:ByteArray) 0,0,3)
 else
 (sslc s_0 (AJ (AB+1)) (AJ ((AJ (AB+x47)) - 1))).bind fun x62=>
 some (FK.mk 3 x62 0,x47,0)
 else
 (NK).bind fun x65=>
 thenR (forR (ρ:=(FK × Int × Int)) (fun (i0:Int) (s0:FK)=>
 (AH x65 i0).bind fun x75=>
 (if (decide ((AJ (AB+(x75.size:Int)))<=(s_0.size:Int)))=true then ((AH x65 i0).bind fun x88=>
 (sslc s_0 AB (AJ (AB+(x88.size:Int)))).bind fun x92=>
 (AH x65 i0).bind fun x95=>
 some (x92==x95)) else some false).bind fun x98=>
 if x98=true then
 (AH x65 i0).bind fun x101=>
 (AH x65 i0).bind fun x106=>
 some (.ret (FK.mk 4 x101 0,(x106.size:Int),0))
 else
 some (.next s0)) 0 (x65.length:Int) (FK.mk 0 (⟨#[]⟩:ByteArray) 0)) (fun s0=>
 some (FK.mk 0 (⟨#[]⟩:ByteArray) 0,0,2)) (fun v0=>some v0)
def NJ [Ev] (t:FK):Option Bool:=
 (N3 t).bind fun x8=>
 if (x8==(⟨#[]⟩:ByteArray))=true then
 some false
 else
 (NU x8 0).bind fun x13=>
 some (((decide (x13.2.2=0))&&(decide (x13.2.1=(x8.size:Int))))&&(decide (x13.1.Kind=t.Kind)))
def HO [Ev] (s_0:ByteArray):Option Bool:=
 (NJ (FK.mk 1 s_0 0)).bind fun x5=>
 some x5
def La [Ev] (l:List ByteArray):Option Int:=
 if (decide (20<(l.length:Int)))=true then
 some 3
 else
 thenR (forR (ρ:=Int) (fun (i0:Int) (_:Unit)=>
 (AH l i0).bind fun x16=>
 (HO x16).bind fun x18=>
 if (!x18)=true then
 some (.ret 2)
 else
 thenR (forR (ρ:=Int) (fun (i2:Int) (_:Unit)=>
 (AH l i2).bind fun x27=>
 (AH l i0).bind fun x31=>
 if (x27==x31)=true then
 some (.ret 5)
 else
 some (.next ())) 0 i0 ()) (fun _=>
 some (.next ())) (fun v2=>some (.ret v2))) 0 (l.length:Int) ()) (fun _=>
 some 0) (fun v0=>some v0)
def Ix [Ev] (a:Attr):Option Int:=
 if (decide ((a.Names.length:Int)=0))=true then
 (EC a.Low (-1000000) 1000000).bind fun x10=>
 (if (!x10)=true then some true else ((EC a.High a.Low 1000000).bind fun x17=>
 some (!x17))).bind fun x19=>
 if x19=true then
 some 6
 else
 some 0
 else
 (La a.Names).bind fun x22=>
 if (!decide (x22=0))=true then
 some x22
 else
 if ((!decide (a.Low=0))||(!decide (a.High=(AJ ((a.Names.length:Int) - 1)))))=true then
 some 6
 else
 some 0
def MY [Ev] (t:Types) (i_1:Int):Option Int:=
 (AH t.Nodes i_1).bind fun x14=>
 (HO x14.Name).bind fun x18=>
 if (!x18)=true then
 some 2
 else
 thenR (forR (ρ:=Int) (fun (i0:Int) (_:Unit)=>
 (AH t.Nodes i0).bind fun x28=>
 if (x28.Name==x14.Name)=true then
 some (.ret 5)
 else
 some (.next ())) 0 i_1 ()) (fun _=>
 (EC x14.Parent (-1) (AJ (i_1 - 1))).bind fun x38=>
 if (!x38)=true then
 some 6
 else
 (NL t i_1).bind fun x42=>
 if ((decide (4<(x14.Attrs.length:Int)))||(decide (8<(x42.length:Int))))=true then
 some 3
 else
 thenR (forR (ρ:=Int) (fun (i2:Int) (_:Unit)=>
 (AH x42 i2).bind fun x66=>
 (HO x66.Name).bind fun x69=>
 if (!x69)=true then
 some (.ret 2)
 else
 thenR (forR (ρ:=Int) (fun (i4:Int) (_:Unit)=>
 (AH x42 i4).bind fun x78=>
 (AH x42 i2).bind fun x83=>
 if (x78.Name==x83.Name)=true then
 some (.ret 5)
 else
 some (.next ())) 0 i2 ()) (fun _=>
 (AH x42 i2).bind fun x89=>
 (Ix x89).bind fun x91=>
 if (!decide (x91=0))=true then
 some (.ret x91)
 else
 some (.next ())) (fun v4=>some (.ret v4))) (AJ ((x42.length:Int) - (x14.Attrs.length:Int))) (x42.length:Int) ()) (fun _=>
 some 0) (fun v2=>some v2)) (fun v0=>some v0)
def KK (low:Int) (high:Int):Option Bool:=
 (EC low 0 40).bind fun x6=>
 (if x6=true then ((if (decide (high=(-1)))=true then some true else ((EC high low 40).bind fun x13=>
 some (x13))).bind fun x14=>
 some (x14)) else some false).bind fun x15=>
 some x15
def MX [Ev] (t:Types) (i_1:Int):Option Int:=
 (AH t.Edges i_1).bind fun x11=>
 (HO x11.Name).bind fun x15=>
 if (!x15)=true then
 some 2
 else
 thenR (forR (ρ:=Int) (fun (i0:Int) (_:Unit)=>
 (AH t.Edges i0).bind fun x25=>
 if (x25.Name==x11.Name)=true then
 some (.ret 5)
 else
 some (.next ())) 0 i_1 ()) (fun _=>
 (EC x11.From 0 (AJ ((t.Nodes.length:Int) - 1))).bind fun x38=>
 (if (!x38)=true then some true else ((EC x11.To 0 (AJ ((t.Nodes.length:Int) - 1))).bind fun x44=>
 some (!x44))).bind fun x46=>
 (if x46=true then some true else ((KK x11.OutLow x11.OutHigh).bind fun x52=>
 some (!x52))).bind fun x54=>
 (if x54=true then some true else ((KK x11.InLow x11.InHigh).bind fun x60=>
 some (!x60))).bind fun x62=>
 if x62=true then
 some 6
 else
 some 0) (fun v0=>some v0)
def IB [Ev] (t:Types):Option (ByteArray × Int):=
 if (decide ((t.Nodes.length:Int)=0))=true then
 some ((⟨#[]⟩:ByteArray),7)
 else
 if ((decide (12<(t.Nodes.length:Int)))||(decide (20<(t.Edges.length:Int))))=true then
 some ((⟨#[]⟩:ByteArray),3)
 else
 thenR (forR (ρ:=(ByteArray × Int)) (fun (i0:Int) (_:Unit)=>
 (MY t i0).bind fun x31=>
 if (!decide (x31=0))=true then
 (AH t.Nodes i0).bind fun x37=>
 some (.ret (x37.Name,x31))
 else
 some (.next ())) 0 (t.Nodes.length:Int) ()) (fun _=>
 thenR (forR (ρ:=(ByteArray × Int)) (fun (i2:Int) (_:Unit)=>
 (MX t i2).bind fun x50=>
 if (!decide (x50=0))=true then
 (AH t.Edges i2).bind fun x56=>
 some (.ret (x56.Name,x50))
 else
 some (.next ())) 0 (t.Edges.length:Int) ()) (fun _=>
 some ((⟨#[]⟩:ByteArray),0)) (fun v2=>some v2)) (fun v0=>some v0)
def K9 (n:Int):Option Bool:=
 some ((decide (0<=n))&&(decide (n<=99)))
def NM (e:BX) (nodes:Int):Option Bool:=
 (K9 e.Type').bind fun x7=>
 some ((((x7&&(decide (0<=e.From)))&&(decide (e.From<nodes)))&&(decide (0<=e.To)))&&(decide (e.To<nodes)))
def F7 (g:Graph):Option Int:=
 if ((decide (40<(g.Nodes.length:Int)))||(decide (80<(g.Edges.length:Int))))=true then
 some 3
 else
 thenR (forR (ρ:=Int) (fun (i0:Int) (_:Unit)=>
 (AH g.Nodes i0).bind fun x25=>
 (K9 x25).bind fun x27=>
 if (!x27)=true then
 some (.ret 6)
 else
 some (.next ())) 0 (g.Nodes.length:Int) ()) (fun _=>
 thenR (forR (ρ:=Int) (fun (i2:Int) (_:Unit)=>
 (AH g.Edges i2).bind fun x39=>
 (NM x39 (g.Nodes.length:Int)).bind fun x44=>
 if (!x44)=true then
 some (.ret 6)
 else
 some (.next ())) 0 (g.Edges.length:Int) ()) (fun _=>
 some 0) (fun v2=>some v2)) (fun v0=>some v0)
def JC (t:Types) (g:Graph):Option Bool:=
 thenR (forR (ρ:=Bool) (fun (i0:Int) (_:Unit)=>
 (AH g.Nodes i0).bind fun x17=>
 (if (decide (x17<0))=true then some true else ((AH g.Nodes i0).bind fun x24=>
 some (decide ((t.Nodes.length:Int)<=x24)))).bind fun x30=>
 if x30=true then
 some (.ret false)
 else
 some (.next ())) 0 (g.Nodes.length:Int) ()) (fun _=>
 thenR (forR (ρ:=Bool) (fun (i2:Int) (_:Unit)=>
 (AH g.Edges i2).bind fun x41=>
 (if (decide (x41.Type'<0))=true then some true else ((AH g.Edges i2).bind fun x49=>
 some (decide ((t.Edges.length:Int)<=x49.Type')))).bind fun x56=>
 if x56=true then
 some (.ret false)
 else
 some (.next ())) 0 (g.Edges.length:Int) ()) (fun _=>
 some true) (fun v2=>some v2)) (fun v0=>some v0)
def KL [Ev] (t:Types) (a:Int) (b:Int):Option Int:=
 (IB t).bind fun x11=>
 if (!decide (x11.2=0))=true then
 some x11.2
 else
 (EC a 0 (AJ ((t.Nodes.length:Int) - 1))).bind fun x22=>
 (if (!x22)=true then some true else ((EC b 0 (AJ ((t.Nodes.length:Int) - 1))).bind fun x30=>
 some (!x30))).bind fun x32=>
 if x32=true then
 some 6
 else
 some 0
def IA [Ev] (t:Types) (a:Int):Option (List Attr × Int):=
 (KL t a a).bind fun x14=>
 if (!decide (x14=0))=true then
 some ([],x14)
 else
 (NL t a).bind fun x20=>
 (forA (fun (i0:Int) (s0:List Attr)=>
 (AH x20 i0).bind fun x29=>
 (AX [] x29.Names).bind fun x34=>
 (AX s0 [Attr.mk x29.Name x29.Low x29.High x34]).bind fun x39=>
 some x39) 0 (x20.length:Int) []).bind fun s0=>
 some (s0,0)
def Mf [Ev] (t:Types) (p:Pattern) (node:Int) (index:Int):Option (Attr × Bool):=
 if ((decide (node<0))||(decide ((p.Graph.Nodes.length:Int)<=node)))=true then
 some (Attr.mk (⟨#[]⟩:ByteArray) 0 0 [],false)
 else
 (AH p.Graph.Nodes node).bind fun x29=>
 (IA t x29).bind fun x31=>
 if (((!decide (x31.2=0))||(decide (index<0)))||(decide ((x31.1.length:Int)<=index)))=true then
 some (Attr.mk (⟨#[]⟩:ByteArray) 0 0 [],false)
 else
 (AH x31.1 index).bind fun x49=>
 some (x49,true)
def Ln (n:Int):Option Bool:=
 some ((decide ((-1000000)<=n))&&(decide (n<=1000000)))
def JY (n:Int) (t:Term):Option Int:=
 if ((((decide (t.Var<(-1)))||(decide (n<=t.Var)))||(decide (t.Add<(-1000000))))||(decide (1000000<t.Add)))=true then
 some 6
 else
 some 0
def NW (n:Int) (x_1:Test):Option Int:=
 if ((!decide (x_1.Kind=1))&&(!decide (x_1.Kind=2)))=true then
 some 1
 else
 (JY n x_1.Left).bind fun x17=>
 if (!decide (x17=0))=true then
 some x17
 else
 (JY n x_1.Right).bind fun x24=>
 some x24
def LZ (n:Int) (l:List Test):Option Int:=
 if ((decide (n<0))||(decide (12<n)))=true then
 some 6
 else
 if (decide (40<(l.length:Int)))=true then
 some 3
 else
 thenR (forR (ρ:=Int) (fun (i0:Int) (_:Unit)=>
 (AH l i0).bind fun x25=>
 (NW n x25).bind fun x27=>
 if (!decide (x27=0))=true then
 some (.ret x27)
 else
 some (.next ())) 0 (l.length:Int) ()) (fun _=>
 some 0) (fun v0=>some v0)
def Kx (p:Pattern) (v_1:Int):Option Bool:=
 thenR (forR (ρ:=Bool) (fun (i0:Int) (_:Unit)=>
 (AH p.Slots i0).bind fun x16=>
 if (decide (x16.Term.Var=v_1))=true then
 some (.ret true)
 else
 some (.next ())) 0 (p.Slots.length:Int) ()) (fun _=>
 some false) (fun v0=>some v0)
def F8 [Ev] (t:Types) (p:Pattern):Option Int:=
 (IB t).bind fun x16=>
 if (!decide (x16.2=0))=true then
 some x16.2
 else
 (F7 p.Graph).bind fun x24=>
 if (!decide (x24=0))=true then
 some x24
 else
 (JC t p.Graph).bind fun x31=>
 if (!x31)=true then
 some 13
 else
 if ((decide (p.Vars<0))||(decide (12<p.Vars)))=true then
 some 6
 else
 if ((decide (10<(p.Slots.length:Int)))||(decide (10<(p.Tests.length:Int))))=true then
 some 3
 else
 thenR (forR (ρ:=Int) (fun (i0:Int) (_:Unit)=>
 (AH p.Slots i0).bind fun x61=>
 (Mf t p x61.Node x61.Attr).bind fun x70=>
 (if (((!x70.2)||(decide (x61.Term.Var<(-1))))||(decide (p.Vars<=x61.Term.Var)))=true then some true else ((Ln x61.Term.Add).bind fun x93=>
 some (!x93))).bind fun x95=>
 if x95=true then
 some (.ret 6)
 else
 some (.next ())) 0 (p.Slots.length:Int) ()) (fun _=>
 (LZ p.Vars p.Tests).bind fun x100=>
 if (!decide (x100=0))=true then
 some x100
 else
 thenR (forR (ρ:=Int) (fun (i2:Int) (_:Unit)=>
 (Kx p i2).bind fun x112=>
 if (!x112)=true then
 some (.ret 9)
 else
 some (.next ())) 0 p.Vars ()) (fun _=>
 some 0) (fun v2=>some v2)) (fun v0=>some v0)
def IS (c:AA):Option Bool:=
 some (((decide ((AJ ((AJ ((AJ ((c.Map.Nodes.length:Int)+(c.Map.Edges.length:Int)))+(c.Pattern.Graph.Nodes.length:Int)))+(c.Pattern.Graph.Edges.length:Int)))=0))&&(decide ((AJ ((c.Pattern.Slots.length:Int)+(c.Pattern.Tests.length:Int)))=0)))&&(decide (c.Pattern.Vars=0)))
def Li (c:AA):Option Bool:=
 if (decide (c.Kind=1))=true then
 (if (decide ((c.Kids.length:Int)=0))=true then ((IS c).bind fun x13=>
 some (x13)) else some false).bind fun x14=>
 some x14
 else
 if (decide (c.Kind=2))=true then
 (if (decide ((c.Kids.length:Int)=1))=true then ((IS c).bind fun x23=>
 some (x23)) else some false).bind fun x24=>
 some x24
 else
 (if (decide (c.Kind=3))=true then
 some (decide (c.Kind=3))
 else
 some (decide (c.Kind=4))).bind fun w1=>
 if w1=true then
 (if (decide (0<(c.Kids.length:Int)))=true then ((IS c).bind fun x34=>
 some (x34)) else some false).bind fun x35=>
 some x35
 else
 if (decide (c.Kind=5))=true then
 some (decide ((c.Kids.length:Int)=1))
 else
 some false
def FD [Ev]:Nat->AA->Option Bool
 | 0,_=>none
 | n+1,c=>
  (Li c).bind fun x5=>
  if (!x5)=true then
  some false
  else
  thenR (forR (ρ:=Bool) (fun (i0:Int) (_:Unit)=>
  (AH c.Kids i0).bind fun x17=>
  (FD n x17).bind fun x19=>
  if (!x19)=true then
  some (.ret false)
  else
  some (.next ())) 0 (c.Kids.length:Int) ()) (fun _=>
  some true) (fun v0=>some v0)
def M6 [Ev] (c:AA):Option Bool:=Jg fun n=>FD n c
def FY [Ev]:Nat->AA->Option (Int × Int)
 | 0,_=>none
 | n+1,c=>
  (forA (fun (i0:Int) (s0:Int × Int)=>
  (AH c.Kids i0).bind fun x20=>
  (FY n x20).bind fun x22=>
  some (AJ (s0.1+x22.1),max s0.2 x22.2)) 0 (c.Kids.length:Int) (1,0)).bind fun s0=>
  (if (decide (c.Kind=5))=true then
  some (AJ (s0.2+1))
  else
  some s0.2).bind fun w1=>
  some (s0.1,w1)
def Np [Ev] (c:AA):Option (Int × Int):=Jg fun n=>FY n c
def Lg [Ev] (c:AA):Option Int:=
 (M6 c).bind fun x6=>
 if (!x6)=true then
 some 1
 else
 (Np c).bind fun x10=>
 if ((decide (12<x10.1))||(decide (3<x10.2)))=true then
 some 3
 else
 some 0
def Mh (p:Pattern) (v_1:Int):Option Bool:=
 thenR (forR (ρ:=Bool) (fun (i0:Int) (_:Unit)=>
 (AH p.Slots i0).bind fun x16=>
 if (decide (x16.Term.Var=v_1))=true then
 some (.ret true)
 else
 some (.next ())) 0 (p.Slots.length:Int) ()) (fun _=>
 some false) (fun v0=>some v0)
def Lh [Ev] (t:Types) (vars:Int) (q:Pattern):Option Int:=
 if (decide (q.Vars<vars))=true then
 some 20
 else
 (F8 t q).bind fun x15=>
 if (!decide (x15=9))=true then
 some x15
 else
 thenR (forR (ρ:=Int) (fun (i0:Int) (_:Unit)=>
 (Mh q i0).bind fun x28=>
 if (!x28)=true then
 some (.ret x15)
 else
 some (.next ())) vars q.Vars ()) (fun _=>
 some 0) (fun v0=>some v0)
def KN (a:Graph) (b:Graph) (m:Morphism):Option Int:=
 (F7 a).bind fun x14=>
 if (!decide (x14=0))=true then
 some x14
 else
 (F7 b).bind fun x19=>
 if (!decide (x19=0))=true then
 some x19
 else
 if ((!decide ((m.Nodes.length:Int)=(a.Nodes.length:Int)))||(!decide ((m.Edges.length:Int)=(a.Edges.length:Int))))=true then
 some 20
 else
 thenR (forR (ρ:=Int) (fun (i0:Int) (_:Unit)=>
 (AH m.Nodes i0).bind fun x49=>
 (if (decide (x49<0))=true then some true else ((AH m.Nodes i0).bind fun x56=>
 some (decide ((b.Nodes.length:Int)<=x56)))).bind fun x62=>
 if x62=true then
 some (.ret 6)
 else
 (AH m.Nodes i0).bind fun x68=>
 (AH b.Nodes x68).bind fun x70=>
 (AH a.Nodes i0).bind fun x75=>
 if (!decide (x70=x75))=true then
 some (.ret 13)
 else
 some (.next ())) 0 (a.Nodes.length:Int) ()) (fun _=>
 thenR (forR (ρ:=Int) (fun (i2:Int) (_:Unit)=>
 (AH m.Edges i2).bind fun x88=>
 (if (decide (x88<0))=true then some true else ((AH m.Edges i2).bind fun x95=>
 some (decide ((b.Edges.length:Int)<=x95)))).bind fun x101=>
 if x101=true then
 some (.ret 6)
 else
 (AH a.Edges i2).bind fun x105=>
 (AH m.Edges i2).bind fun x112=>
 (AH b.Edges x112).bind fun x114=>
 if (!decide (x105.Type'=x114.Type'))=true then
 some (.ret 13)
 else
 (AH m.Nodes x105.From).bind fun x125=>
 (if (!decide (x125=x114.From))=true then some true else ((AH m.Nodes x105.To).bind fun x135=>
 some (!decide (x135=x114.To)))).bind fun x140=>
 if x140=true then
 some (.ret 11)
 else
 some (.next ())) 0 (a.Edges.length:Int) ()) (fun _=>
 some 0) (fun v2=>some v2)) (fun v0=>some v0)
def IK (l:List Int):Option Bool:=
 thenR (forR (ρ:=Bool) (fun (i0:Int) (_:Unit)=>
 thenR (forR (ρ:=Bool) (fun (i2:Int) (_:Unit)=>
 (AH l i0).bind fun x18=>
 (AH l i2).bind fun x22=>
 if (decide (x18=x22))=true then
 some (.ret false)
 else
 some (.next ())) 0 i0 ()) (fun _=>
 some (.next ())) (fun v2=>some (.ret v2))) 0 (l.length:Int) ()) (fun _=>
 some true) (fun v0=>some v0)
def Iy (a:Graph) (b:Graph) (m:Morphism):Option Bool:=
 (KN a b m).bind fun x10=>
 (if (decide (x10=0))=true then ((IK m.Nodes).bind fun x15=>
 some (x15)) else some false).bind fun x16=>
 (if x16=true then ((IK m.Edges).bind fun x20=>
 some (x20)) else some false).bind fun x21=>
 some x21
def F9 [Ev]:Nat->Types->Pattern->AA->Option Int
 | 0,_,_,_=>none
 | n+1,t,p,c=>
  if (decide (c.Kind=5))=true then
  (Lh t p.Vars c.Pattern).bind fun x21=>
  if (!decide (x21=0))=true then
  some x21
  else
  (KN p.Graph c.Pattern.Graph c.Map).bind fun x32=>
  if (!decide (x32=0))=true then
  some x32
  else
  (Iy p.Graph c.Pattern.Graph c.Map).bind fun x43=>
  if (!x43)=true then
  some 1
  else
  thenR (forR (ρ:=Int) (fun (i0:Int) (_:Unit)=>
  (AH c.Kids i0).bind fun x59=>
  (F9 n t c.Pattern x59).bind fun x61=>
  if (!decide (x61=0))=true then
  some (.ret x61)
  else
  some (.next ())) 0 (c.Kids.length:Int) ()) (fun _=>
  some 0) (fun v0=>some v0)
  else
  thenR (forR (ρ:=Int) (fun (i0:Int) (_:Unit)=>
  (AH c.Kids i0).bind fun x59=>
  (F9 n t p x59).bind fun x61=>
  if (!decide (x61=0))=true then
  some (.ret x61)
  else
  some (.next ())) 0 (c.Kids.length:Int) ()) (fun _=>
  some 0) (fun v0=>some v0)
def TE [Ev] (t:Types) (p:Pattern) (c:AA):Option Int:=Jg fun n=>F9 n t p c
def KT [Ev] (t:Types) (p:Pattern) (c:AA):Option Int:=
 (F8 t p).bind fun x11=>
 if (!decide (x11=0))=true then
 some x11
 else
 (Lg c).bind fun x16=>
 if (!decide (x16=0))=true then
 some x16
 else
 (TE t p c).bind fun x23=>
 some x23
def LA :Option AA:=
 some (AA.mk 1 [] (Morphism.mk [] []) (Pattern.mk (Graph.mk [] []) [] 0 []))
def JX (n:Int):Option (List Int):=
 (forA (fun (i0:Int) (s0:List Int)=>
 (AX s0 [i0]).bind fun x13=>
 some x13) 0 n []).bind fun s0=>
 some s0
def QZ (g:Graph):Option Morphism:=
 (JX (g.Nodes.length:Int)).bind fun x6=>
 (JX (g.Edges.length:Int)).bind fun x10=>
 some (Morphism.mk x6 x10)
def MZ (g:Graph):Option Graph:=
 (AX [] g.Nodes).bind fun x6=>
 (AX [] g.Edges).bind fun x10=>
 some (Graph.mk x6 x10)
def KU [Ev] (t:Types) (p:Pattern) (x_2:Int) (y:Int):Option (Pattern × Morphism):=
 (QZ p.Graph).bind fun x19=>
 (MZ p.Graph).bind fun x22=>
 (DP x_2 3).bind fun x31=>
 (if (decide (0<x31))=true then
 (quo x_2 4).bind fun x37=>
 (DP (AJ (IntKind.u8.wrap x37)) (t.Nodes.length:Int)).bind fun x42=>
 (AX x22.Nodes [x42]).bind fun x44=>
 some (Pattern.mk (Graph.mk x44 x22.Edges) [] p.Vars [],AJ ((x22.Nodes.length:Int)+1))
 else
 some (Pattern.mk x22 [] p.Vars [],(x22.Nodes.length:Int))).bind fun w1=>
 (if (decide (0<w1.2))=true then ((DP x_2 4).bind fun x53=>
 some (decide (0<x53))) else some false).bind fun x55=>
 (if x55=true then
 thenR (forR (ρ:=Unit) (fun (i0:Int) (s0:Pattern)=>
 (DP (AJ (i0+(AJ x_2))) (t.Edges.length:Int)).bind fun x70=>
 (DP (AJ y) w1.2).bind fun x74=>
 (DP y 2).bind fun x79=>
 if (decide (x79=1))=true then
 (AX s0.Graph.Edges [BX.mk x70 (AJ (w1.2 - 1)) x74]).bind fun x92=>
 some (.brk (Pattern.mk (Graph.mk s0.Graph.Nodes x92) s0.Slots s0.Vars s0.Tests))
 else
 (AX s0.Graph.Edges [BX.mk x70 x74 (AJ (w1.2 - 1))]).bind fun x92=>
 some (.brk (Pattern.mk (Graph.mk s0.Graph.Nodes x92) s0.Slots s0.Vars s0.Tests))) 0 (t.Edges.length:Int) w1.1) (fun s0=>
 some s0) (fun _=>none)
 else
 some w1.1).bind fun w2=>
 (if ((decide (0<w1.2))&&(decide (w2.Vars<6)))=true then
 (AH w2.Graph.Nodes (AJ (w1.2 - 1))).bind fun x107=>
 (if (decide (x107<(t.Nodes.length:Int)))=true then ((F8 t (Pattern.mk w2.Graph [B4.mk (AJ (w1.2 - 1)) 0 (Term.mk 0 0)] 1 [])).bind fun x124=>
 some (decide (x124=0))) else some false).bind fun x126=>
 if x126=true then
 (DP y 3).bind fun x134=>
 (AX w2.Slots [B4.mk (AJ (w1.2 - 1)) 0 (Term.mk w2.Vars (AJ x134))]).bind fun x139=>
 if (decide (1<(AJ (w2.Vars+1))))=true then
 (quo x_2 64).bind fun x151=>
 (DP (AJ (IntKind.u8.wrap x151)) 2).bind fun x153=>
 (quo y 8).bind fun x160=>
 (DP (AJ (IntKind.u8.wrap x160)) 9).bind fun x162=>
 (AX w2.Tests [Test.mk (AJ (1+x153)) (Term.mk 0 0) (Term.mk (AJ ((AJ (w2.Vars+1)) - 1)) (AJ (x162 - 4)))]).bind fun x167=>
 some (Pattern.mk w2.Graph x139 (AJ (w2.Vars+1)) x167)
 else
 some (Pattern.mk w2.Graph x139 (AJ (w2.Vars+1)) w2.Tests)
 else
 some w2
 else
 some w2).bind fun w3=>
 some (w3,x19)
def C8 [Ev]:Nat->Types->Pattern->(List Int)->Int->Option (AA × List Int)
 | 0,_,_,_,_=>none
 | n+1,t,p,codes,depth=>
  if (decide ((codes.length:Int)<3))=true then
  (LA).bind fun x22=>
  some (x22,[])
  else
  (AH codes 1).bind fun x24=>
  (AH codes 2).bind fun x27=>
  (slc codes 3 codes.length).bind fun x30=>
  (AH codes 0).bind fun x33=>
  (DP x33 8).bind fun x35=>
  (if (decide (x35=1))=true then
  some (decide (x35=1))
  else
  some (decide (x35=2))).bind fun w1=>
  (if w1=true then
  some (AA.mk 2 [] (Morphism.mk [] []) (Pattern.mk (Graph.mk [] []) [] 0 []))
  else
  if (decide (x35=3))=true then
  some (AA.mk 3 [] (Morphism.mk [] []) (Pattern.mk (Graph.mk [] []) [] 0 []))
  else
  if (decide (x35=4))=true then
  some (AA.mk 4 [] (Morphism.mk [] []) (Pattern.mk (Graph.mk [] []) [] 0 []))
  else
  if (decide (x35=5))=true then
  if (decide (x35=5))=true then
  some (AA.mk 5 [] (Morphism.mk [] []) (Pattern.mk (Graph.mk [] []) [] 0 []))
  else
  some (AA.mk 1 [] (Morphism.mk [] []) (Pattern.mk (Graph.mk [] []) [] 0 []))
  else
  if (decide (x35=6))=true then
  if (decide (x35=6))=true then
  some (AA.mk 5 [] (Morphism.mk [] []) (Pattern.mk (Graph.mk [] []) [] 0 []))
  else
  some (AA.mk 1 [] (Morphism.mk [] []) (Pattern.mk (Graph.mk [] []) [] 0 []))
  else
  if (decide (x35=7))=true then
  some (AA.mk 5 [] (Morphism.mk [] []) (Pattern.mk (Graph.mk [] []) [] 0 []))
  else
  some (AA.mk 1 [] (Morphism.mk [] []) (Pattern.mk (Graph.mk [] []) [] 0 []))).bind fun w2=>
  (DP (AJ x24) 2).bind fun x53=>
  (DP (AJ x24) 2).bind fun x57=>
  (AH [0,0,1,AJ (1+x53),AJ (1+x57),1] w2.Kind).bind fun x62=>
  if (decide (w2.Kind=5))=true then
  if ((decide (depth=0))||(decide (4<(AJ ((p.Graph.Nodes.length:Int)+(p.Graph.Edges.length:Int))))))=true then
  (LA).bind fun x82=>
  some (x82,x30)
  else
  (KU t p x24 x27).bind fun x89=>
  (forA (fun (i1:Int) (s1:List Int × AA)=>
  (C8 n t x89.1 s1.1 (AJ (depth - 1))).bind fun x107=>
  (AX s1.2.Kids [x107.1]).bind fun x114=>
  some (x107.2,AA.mk s1.2.Kind x114 s1.2.Map s1.2.Pattern)) 0 x62 (x30,AA.mk w2.Kind w2.Kids x89.2 x89.1)).bind fun s1=>
  some (s1.2,s1.1)
  else
  (forA (fun (i1:Int) (s1:List Int × AA)=>
  (C8 n t p s1.1 depth).bind fun x107=>
  (AX s1.2.Kids [x107.1]).bind fun x114=>
  some (x107.2,AA.mk s1.2.Kind x114 s1.2.Map s1.2.Pattern)) 0 x62 (x30,w2)).bind fun s1=>
  some (s1.2,s1.1)
def Qb [Ev] (t:Types) (p:Pattern) (codes:List Int) (depth:Int):Option (AA × List Int):=Jg fun n=>C8 n t p codes depth
def Mg [Ev] (t:Types) (p:Pattern) (codes:List Int):Option AA:=
 (slc codes 0 (min (codes.length:Int) 15)).bind fun x16=>
 (Qb t p x16 2).bind fun x17=>
 some x17.1
def Ji (g:Graph):Option Bool:=
 some ((decide ((g.Nodes.length:Int)<=45))&&(decide ((g.Edges.length:Int)<=90)))
def L5 (p:Pattern):Option Bool:=
 (Ji p.Graph).bind fun x5=>
 some ((x5&&(decide ((p.Slots.length:Int)<=15)))&&(decide ((p.Tests.length:Int)<=15)))
def PU (m:Morphism) (n:Int):Option Bool:=
 some (decide ((AJ ((m.Nodes.length:Int)+(m.Edges.length:Int)))<=n))
def FH [Ev]:Nat->AA->Int->Option Int
 | 0,_,_=>none
 | n+1,c,most=>
  (L5 c.Pattern).bind fun x10=>
  (if (!x10)=true then some true else ((PU c.Map 140).bind fun x15=>
  some (!x15))).bind fun x17=>
  if x17=true then
  some (-1)
  else
  thenR (FP (ρ:=Int) (fun (s0:Int × Int)=>
  if ((decide (s0.2<(c.Kids.length:Int)))&&(decide (0<=s0.1)))=true then
  (AH c.Kids s0.2).bind fun x32=>
  (FH n x32 s0.1).bind fun x35=>
  some (.next (x35,AJ (s0.2+1)))
  else
  some (.brk (s0.1,s0.2))) (AJ (most - 1),0)) (fun s0=>
  some s0.1) (fun v0=>some v0)
def Qa [Ev] (c:AA) (most:Int):Option Int:=Jg fun n=>FH n c most
def Na [Ev] (c:AA):Option Bool:=
 (Qa c 40).bind fun x4=>
 some (decide (0<=x4))
def L4 (h_0:A0):Option Bool:=
 (Ji h_0.Graph).bind fun x6=>
 if ((!x6)||(decide (45<(h_0.Values.length:Int))))=true then
 some false
 else
 thenR (forR (ρ:=Bool) (fun (i0:Int) (_:Unit)=>
 (AH h_0.Values i0).bind fun x24=>
 if (decide (12<(x24.length:Int)))=true then
 some (.ret false)
 else
 some (.next ())) 0 (h_0.Values.length:Int) ()) (fun _=>
 some true) (fun v0=>some v0)
def NX [Ev] (t:Types):Option Bool:=
 if ((decide (20<(t.Nodes.length:Int)))||(decide (30<(t.Edges.length:Int))))=true then
 some false
 else
 thenR (forR (ρ:=Bool) (fun (i0:Int) (s0:Int)=>
 (AH t.Nodes i0).bind fun x30=>
 (if (decide (30<(AJ (s0+(x30.Attrs.length:Int)))))=true then some true else ((AH t.Nodes i0).bind fun x41=>
 some (decide (40<(x41.Name.size:Int))))).bind fun x46=>
 if x46=true then
 some (.ret false)
 else
 thenR (FP (ρ:=Bool) (fun (s2:Int)=>
 (AH t.Nodes i0).bind fun x51=>
 if (decide (s2<(x51.Attrs.length:Int)))=true then
 (AH t.Nodes i0).bind fun x61=>
 (AH x61.Attrs s2).bind fun x65=>
 if ((decide (40<(x65.Name.size:Int)))||(decide (25<(x65.Names.length:Int))))=true then
 some (.ret false)
 else
 thenR (FP (ρ:=Bool) (fun (s4:Int)=>
 if (decide (s4<(x65.Names.length:Int)))=true then
 (AH x65.Names s4).bind fun x87=>
 if (decide (40<(x87.size:Int)))=true then
 some (.ret false)
 else
 some (.next (AJ (s4+1)))
 else
 some (.brk s4)) 0) (fun s4=>
 some (.next (AJ (s2+1)))) (fun v4=>some (.ret v4))
 else
 some (.brk s2)) 0) (fun s2=>
 some (.next (AJ (s0+(x30.Attrs.length:Int))))) (fun v2=>some (.ret v2))) 0 (t.Nodes.length:Int) 0) (fun s0=>
 thenR (forR (ρ:=Bool) (fun (i6:Int) (_:Unit)=>
 (AH t.Edges i6).bind fun x101=>
 if (decide (40<(x101.Name.size:Int)))=true then
 some (.ret false)
 else
 some (.next ())) 0 (t.Edges.length:Int) ()) (fun _=>
 some true) (fun v6=>some v6)) (fun v0=>some v0)
def KP [Ev] (t:Types) (p:Graph) (g:Graph):Option Int:=
 (IB t).bind fun x13=>
 if (!decide (x13.2=0))=true then
 some x13.2
 else
 (F7 p).bind fun x20=>
 if (!decide (x20=0))=true then
 some x20
 else
 (F7 g).bind fun x25=>
 if (!decide (x25=0))=true then
 some x25
 else
 (JC t p).bind fun x31=>
 (if (!x31)=true then some true else ((JC t g).bind fun x36=>
 some (!x36))).bind fun x38=>
 if x38=true then
 some 13
 else
 some 0
def Lc [Ev] (t:Types) (p:Graph) (g:Graph):Option Bool:=
 (NX t).bind fun x8=>
 (if x8=true then ((Ji p).bind fun x11=>
 some (x11)) else some false).bind fun x12=>
 (if x12=true then ((Ji g).bind fun x15=>
 some (x15)) else some false).bind fun x16=>
 (if x16=true then ((KP t p g).bind fun x21=>
 some ((!decide (x21=0))||(((decide ((AJ ((p.Nodes.length:Int)+(p.Edges.length:Int)))<=6))&&(decide ((g.Nodes.length:Int)<=8)))&&(decide ((g.Edges.length:Int)<=12))))) else some false).bind fun x45=>
 some x45
def NN [Ev] (t:Types) (p:Pattern) (h_2:A0):Option Bool:=
 (L5 p).bind fun x8=>
 (if x8=true then ((L4 h_2).bind fun x11=>
 some (x11)) else some false).bind fun x12=>
 (if x12=true then ((Lc t p.Graph h_2.Graph).bind fun x19=>
 some (x19)) else some false).bind fun x20=>
 some x20
def GU [Ev]:Nat->AA->Option Bool
 | 0,_=>none
 | n+1,c=>
  thenR (forR (ρ:=Bool) (fun (i0:Int) (_:Unit)=>
  (AH c.Kids i0).bind fun x14=>
  (GU n x14).bind fun x16=>
  if (!x16)=true then
  some (.ret false)
  else
  some (.next ())) 0 (c.Kids.length:Int) ()) (fun _=>
  some (decide ((AJ ((c.Pattern.Graph.Nodes.length:Int)+(c.Pattern.Graph.Edges.length:Int)))<=6))) (fun v0=>some v0)
def OY [Ev] (c:AA):Option Bool:=Jg fun n=>GU n c
def EX [Ev]:Nat->Pattern->AA->Int->Int->Option Bool
 | 0,_,_,_,_=>none
 | n+1,p,c,nodes,edges=>
  (if (decide (c.Kind=5))=true then
  some c.Pattern
  else
  some p).bind fun w1=>
  thenR (FP (ρ:=Bool) (fun (s0:Int × Int)=>
  if (decide (s0.2<(w1.Graph.Nodes.length:Int)))=true then
  some (.next (AJ (s0.1*nodes),AJ (s0.2+1)))
  else
  some (.brk (s0.1,s0.2))) (1,(p.Graph.Nodes.length:Int))) (fun s0=>
  thenR (FP (ρ:=Bool) (fun (s2:Int × Int)=>
  if (decide (s2.2<(w1.Graph.Edges.length:Int)))=true then
  some (.next (AJ (s2.1*edges),AJ (s2.2+1)))
  else
  some (.brk (s2.1,s2.2))) (s0.1,(p.Graph.Edges.length:Int))) (fun s2=>
  thenR (forR (ρ:=Bool) (fun (i4:Int) (_:Unit)=>
  (AH c.Kids i4).bind fun x61=>
  (EX n w1 x61 nodes edges).bind fun x65=>
  if (!x65)=true then
  some (.ret false)
  else
  some (.next ())) 0 (c.Kids.length:Int) ()) (fun _=>
  some (decide (s2.1<=5000))) (fun v4=>some v4)) (fun v2=>some v2)) (fun v0=>some v0)
def Nn [Ev] (p:Pattern) (c:AA) (nodes:Int) (edges:Int):Option Bool:=Jg fun n=>EX n p c nodes edges
def Lf [Ev] (t:Types) (p:Pattern) (c:AA) (h_3:A0):Option Bool:=
 (Na c).bind fun x10=>
 (if (!x10)=true then some true else ((L5 p).bind fun x14=>
 some (!x14))).bind fun x16=>
 (if x16=true then some true else ((L4 h_3).bind fun x19=>
 some (!x19))).bind fun x21=>
 if x21=true then
 some false
 else
 (KT t p c).bind fun x25=>
 (if (!decide (x25=0))=true then some true else ((NN t p h_3).bind fun x31=>
 (if x31=true then ((OY c).bind fun x34=>
 some (x34)) else some false).bind fun x35=>
 (if ((x35&&(decide ((h_3.Graph.Nodes.length:Int)<=6)))&&(decide ((h_3.Graph.Edges.length:Int)<=8)))=true then ((Nn p c 14 18).bind fun x53=>
 some (x53)) else some false).bind fun x54=>
 some (x54))).bind fun x55=>
 some x55
def MW [Ev] (nodes:List Ie) (edges:List Ie):Option Types:=
 thenR (FP (ρ:=Types) (fun (s0:Types × Int)=>
 if ((decide (s0.2=0))||((decide (s0.2<(nodes.length:Int)))&&(decide (s0.2<6))))=true then
 if (decide (s0.2<(nodes.length:Int)))=true then
 (AH nodes s0.2).bind fun x33=>
 (sslc (⟨#[65,66,67,68,69,70]⟩:ByteArray) s0.2 (AJ (s0.2+1))).bind fun x38=>
 (DP (AJ x33.a0) (AJ (s0.2+1))).bind fun x44=>
 (quo x33.a0 16).bind fun x48=>
 (DP (IntKind.u8.wrap x48) 4).bind fun x49=>
 (sslc (⟨#[117,118,119,120,121,122]⟩:ByteArray) s0.2 (AJ (s0.2+1))).bind fun x55=>
 (DP x33.a1 4).bind fun x58=>
 if (decide (x58=1))=true then
 (quo x33.a1 4).bind fun x64=>
 (DP (AJ (IntKind.u8.wrap x64)) 9).bind fun x66=>
 (AX s0.1.Nodes [BI.mk x38 (AJ (x44 - 1)) (decide (x49=3)) [Attr.mk x55 (-3) (AJ (3+x66)) []]]).bind fun x82=>
 some (.next (Types.mk x82 s0.1.Edges,AJ (s0.2+1)))
 else
 if (decide (x58=2))=true then
 (AX s0.1.Nodes [BI.mk x38 (AJ (x44 - 1)) (decide (x49=3)) [Attr.mk x55 0 1 [(⟨#[111,102,102]⟩:ByteArray),(⟨#[111,110]⟩:ByteArray)]]]).bind fun x82=>
 some (.next (Types.mk x82 s0.1.Edges,AJ (s0.2+1)))
 else
 (AX s0.1.Nodes [BI.mk x38 (AJ (x44 - 1)) (decide (x49=3)) []]).bind fun x82=>
 some (.next (Types.mk x82 s0.1.Edges,AJ (s0.2+1)))
 else
 (sslc (⟨#[65,66,67,68,69,70]⟩:ByteArray) s0.2 (AJ (s0.2+1))).bind fun x38=>
 (DP (AJ 0) (AJ (s0.2+1))).bind fun x44=>
 (quo 0 16).bind fun x48=>
 (DP (IntKind.u8.wrap x48) 4).bind fun x49=>
 (sslc (⟨#[117,118,119,120,121,122]⟩:ByteArray) s0.2 (AJ (s0.2+1))).bind fun x55=>
 (DP 0 4).bind fun x58=>
 if (decide (x58=1))=true then
 (quo 0 4).bind fun x64=>
 (DP (AJ (IntKind.u8.wrap x64)) 9).bind fun x66=>
 (AX s0.1.Nodes [BI.mk x38 (AJ (x44 - 1)) (decide (x49=3)) [Attr.mk x55 (-3) (AJ (3+x66)) []]]).bind fun x82=>
 some (.next (Types.mk x82 s0.1.Edges,AJ (s0.2+1)))
 else
 if (decide (x58=2))=true then
 (AX s0.1.Nodes [BI.mk x38 (AJ (x44 - 1)) (decide (x49=3)) [Attr.mk x55 0 1 [(⟨#[111,102,102]⟩:ByteArray),(⟨#[111,110]⟩:ByteArray)]]]).bind fun x82=>
 some (.next (Types.mk x82 s0.1.Edges,AJ (s0.2+1)))
 else
 (AX s0.1.Nodes [BI.mk x38 (AJ (x44 - 1)) (decide (x49=3)) []]).bind fun x82=>
 some (.next (Types.mk x82 s0.1.Edges,AJ (s0.2+1)))
 else
 some (.brk (s0.1,s0.2))) (Types.mk [] [],0)) (fun s0=>
 thenR (FP (ρ:=Types) (fun (s3:Types × Int)=>
 if ((decide (s3.2<(edges.length:Int)))&&(decide (s3.2<5)))=true then
 (sslc (⟨#[101,102,103,104,105]⟩:ByteArray) s3.2 (AJ (s3.2+1))).bind fun x102=>
 (AH edges s3.2).bind fun x105=>
 (DP (AJ x105.a0) (s3.1.Nodes.length:Int)).bind fun x110=>
 (AH edges s3.2).bind fun x113=>
 (DP (AJ x113.a1) (s3.1.Nodes.length:Int)).bind fun x118=>
 (AX s3.1.Edges [CO.mk x102 x110 x118 0 (-1) 0 (-1)]).bind fun x121=>
 some (.next (Types.mk s3.1.Nodes x121,AJ (s3.2+1)))
 else
 some (.brk (s3.1,s3.2))) (s0.1,0)) (fun s3=>
 some s3.1) (fun v3=>some v3)) (fun v0=>some v0)
def GT [Ev]:Nat->Types->Int->Int->Option Bool
 | 0,_,_,_=>none
 | n+1,t,a,b=>
  (if (decide (a=b))=true then some true else ((if (decide (0<=a))=true then ((AH t.Nodes a).bind fun x18=>
  (GT n t x18.Parent b).bind fun x22=>
  some (x22)) else some false).bind fun x23=>
  some (x23))).bind fun x24=>
  some x24
def HP [Ev] (t:Types) (a:Int) (b:Int):Option Bool:=Jg fun n=>GT n t a b
def KO [Ev] (t:Types) (g:Graph) (kind:Int):Option (List Int):=
 (forA (fun (i0:Int) (s0:List Int)=>
 (AH g.Nodes i0).bind fun x20=>
 (HP t x20 kind).bind fun x23=>
 if x23=true then
 (AX s0 [i0]).bind fun x27=>
 some x27
 else
 some s0) 0 (g.Nodes.length:Int) []).bind fun s0=>
 some s0
def Mc [Ev] (t:Types) (d:KM) (abstract:Bool):Option Graph:=
 (forA (fun (i0:Int) (s0:List Int)=>
 (if abstract=true then some true else ((AH t.Nodes i0).bind fun x27=>
 some (!x27.Abstract))).bind fun x31=>
 if x31=true then
 (AX s0 [i0]).bind fun x35=>
 some x35
 else
 some s0) 0 (t.Nodes.length:Int) []).bind fun s0=>
 thenR (FP (ρ:=Graph) (fun (s2:Graph × Int)=>
 if (((decide (s2.2<(d.Nodes.length:Int)))&&(decide (s2.2<8)))&&(decide (0<(s0.length:Int))))=true then
 (AH d.Nodes s2.2).bind fun x58=>
 (DP (AJ x58) (s0.length:Int)).bind fun x63=>
 (AH s0 x63).bind fun x64=>
 (AX s2.1.Nodes [x64]).bind fun x67=>
 some (.next (Graph.mk x67 s2.1.Edges,AJ (s2.2+1)))
 else
 some (.brk (s2.1,s2.2))) (Graph.mk [] [],0)) (fun s2=>
 thenR (FP (ρ:=Graph) (fun (s4:Graph × Int)=>
 if (((decide (s4.2<(d.Edges.length:Int)))&&(decide (s4.2<10)))&&(decide (0<(t.Edges.length:Int))))=true then
 (AH d.Edges s4.2).bind fun x89=>
 (DP (AJ x89.a0) (t.Edges.length:Int)).bind fun x96=>
 (AH t.Edges x96).bind fun x102=>
 (KO t s4.1 x102.From).bind fun x105=>
 (AH t.Edges x96).bind fun x111=>
 (KO t s4.1 x111.To).bind fun x114=>
 if ((decide (0<(x105.length:Int)))&&(decide (0<(x114.length:Int))))=true then
 (AH d.Edges s4.2).bind fun x130=>
 (DP (AJ x130.a1) (x105.length:Int)).bind fun x136=>
 (AH x105 x136).bind fun x137=>
 (AH d.Edges s4.2).bind fun x143=>
 (DP (AJ x143.a2) (x114.length:Int)).bind fun x149=>
 (AH x114 x149).bind fun x150=>
 (AX s4.1.Edges [BX.mk x96 x137 x150]).bind fun x154=>
 some (.next (Graph.mk s4.1.Nodes x154,AJ (s4.2+1)))
 else
 some (.next (s4.1,AJ (s4.2+1)))
 else
 some (.brk (s4.1,s4.2))) (s2.1,0)) (fun s4=>
 some s4.1) (fun v4=>some v4)) (fun v2=>some v2)
def GJ (x_0:Int) (n:Int):Option Int:=
 (DP x_0 n).bind fun x7=>
 (DP (AJ (x7+n)) n).bind fun x11=>
 some x11
def MV (n:Int) (code:N8):Option Test:=
 (GJ (AJ code.a0) 4).bind fun x11=>
 (quo x11 3).bind fun x12=>
 (GJ (AJ code.a1) (AJ (n+1))).bind fun x19=>
 (GJ (AJ code.a2) (AJ (n+1))).bind fun x26=>
 (DP (AJ code.a3) 12).bind fun x35=>
 some (Test.mk (AJ (1+(AJ x12))) (Term.mk (AJ (x19 - 1)) 0) (Term.mk (AJ (x26 - 1)) x35))
def Me [Ev] (t:Types) (d:KQ):Option Pattern:=
 (Mc t d.Graph true).bind fun x19=>
 thenR (FP (ρ:=Pattern) (fun (s0:List I8 × Int)=>
 if (decide (s0.2<(x19.Nodes.length:Int)))=true then
 (AH x19.Nodes s0.2).bind fun x35=>
 (IA t x35).bind fun x37=>
 (forA (fun (i2:Int) (s2:List I8)=>
 (AX s2 [I8.mk s0.2 i2]).bind fun x51=>
 some x51) 0 (x37.1.length:Int) s0.1).bind fun s2=>
 some (.next (s2,AJ (s0.2+1)))
 else
 some (.brk (s0.1,s0.2))) ([],0)) (fun s0=>
 thenR (FP (ρ:=Pattern) (fun (s4:Pattern × Int)=>
 if (((decide (s4.2<(d.Slots.length:Int)))&&(decide (s4.2<4)))&&(decide (0<(s0.1.length:Int))))=true then
 (AH d.Slots s4.2).bind fun x71=>
 (DP (AJ x71.a0) (s0.1.length:Int)).bind fun x79=>
 (AH s0.1 x79).bind fun x80=>
 (DP (AJ x71.a1) 5).bind fun x89=>
 (DP (AJ x71.a2) 5).bind fun x94=>
 if (decide (s4.1.Vars<=(AJ (x89 - 1))))=true then
 if (decide (3<(AJ (s4.1.Vars+1))))=true then
 (AX s4.1.Slots [B4.mk x80.a0 x80.a1 (Term.mk 0 0)]).bind fun x122=>
 some (.next (Pattern.mk s4.1.Graph x122 3 s4.1.Tests,AJ (s4.2+1)))
 else
 (AX s4.1.Slots [B4.mk x80.a0 x80.a1 (Term.mk s4.1.Vars 0)]).bind fun x122=>
 some (.next (Pattern.mk s4.1.Graph x122 (AJ (s4.1.Vars+1)) s4.1.Tests,AJ (s4.2+1)))
 else
 if (decide (3<s4.1.Vars))=true then
 (AX s4.1.Slots [B4.mk x80.a0 x80.a1 (Term.mk 0 (AJ (x94 - 2)))]).bind fun x122=>
 some (.next (Pattern.mk s4.1.Graph x122 3 s4.1.Tests,AJ (s4.2+1)))
 else
 (AX s4.1.Slots [B4.mk x80.a0 x80.a1 (Term.mk (AJ (x89 - 1)) (AJ (x94 - 2)))]).bind fun x122=>
 some (.next (Pattern.mk s4.1.Graph x122 s4.1.Vars s4.1.Tests,AJ (s4.2+1)))
 else
 some (.brk (s4.1,s4.2))) (Pattern.mk x19 [] 0 [],0)) (fun s4=>
 thenR (FP (ρ:=Pattern) (fun (s6:Pattern × Int)=>
 if ((decide (s6.2<(d.Tests.length:Int)))&&(decide (s6.2<3)))=true then
 (AH d.Tests s6.2).bind fun x142=>
 (MV s6.1.Vars x142).bind fun x144=>
 (AX s6.1.Tests [x144]).bind fun x146=>
 some (.next (Pattern.mk s6.1.Graph s6.1.Slots s6.1.Vars x146,AJ (s6.2+1)))
 else
 some (.brk (s6.1,s6.2))) (s4.1,0)) (fun s6=>
 some s6.1) (fun v6=>some v6)) (fun v4=>some v4)) (fun v0=>some v0)
def JZ (t:Types):Option (List Int):=
 (forA (fun (i0:Int) (s0:List Int)=>
 (AH t.Nodes i0).bind fun x15=>
 if (!x15.Abstract)=true then
 (AX s0 [i0]).bind fun x22=>
 some x22
 else
 some s0) 0 (t.Nodes.length:Int) []).bind fun s0=>
 some s0
def K8 [Ev] (t:Types) (edge:Int) (from':Int) (to':Int):Option Bool:=
 (KL t from' to').bind fun x12=>
 (if (!decide (x12=0))=true then some true else ((EC edge 0 (AJ ((t.Edges.length:Int) - 1))).bind fun x20=>
 some (!x20))).bind fun x22=>
 if x22=true then
 some false
 else
 (AH t.Edges edge).bind fun x28=>
 (HP t from' x28.From).bind fun x31=>
 (if x31=true then ((AH t.Edges edge).bind fun x38=>
 (HP t to' x38.To).bind fun x41=>
 some (x41)) else some false).bind fun x42=>
 some x42
def Ma [Ev] (t:Types) (d:JB):Option A0:=
 (JZ t).bind fun x17=>
 thenR (FP (ρ:=A0) (fun (s0:A0 × Int)=>
 if (((decide (s0.2<(d.Nodes.length:Int)))&&(decide (s0.2<8)))&&(decide (0<(x17.length:Int))))=true then
 (AH d.Nodes s0.2).bind fun x38=>
 (DP (AJ x38.a0) (x17.length:Int)).bind fun x44=>
 (AH x17 x44).bind fun x45=>
 (IA t x45).bind fun x50=>
 (forA (fun (i2:Int) (s2:List Int)=>
 (AH x50.1 i2).bind fun x63=>
 (AH d.Nodes s0.2).bind fun x69=>
 (AH x50.1 i2).bind fun x78=>
 (AH x50.1 i2).bind fun x83=>
 (DP (AJ ((AJ x69.a1)+(AJ (7*i2)))) (AJ ((AJ (x78.High - x83.Low))+1))).bind fun x88=>
 (AX s2 [AJ (x63.Low+x88)]).bind fun x91=>
 some x91) 0 (x50.1.length:Int) []).bind fun s2=>
 (AX s0.1.Graph.Nodes [x45]).bind fun x97=>
 (AX s0.1.Values [s2]).bind fun x102=>
 some (.next (A0.mk (Graph.mk x97 s0.1.Graph.Edges) x102,AJ (s0.2+1)))
 else
 some (.brk (s0.1,s0.2))) (A0.mk (Graph.mk [] []) [],0)) (fun s0=>
 thenR (FP (ρ:=A0) (fun (s4:A0 × Int)=>
 if ((((decide (s4.2<(d.Edges.length:Int)))&&(decide (s4.2<10)))&&(decide (0<(s0.1.Graph.Nodes.length:Int))))&&(decide (0<(t.Edges.length:Int))))=true then
 (AH d.Edges s4.2).bind fun x134=>
 (DP (AJ x134.a0) (t.Edges.length:Int)).bind fun x141=>
 (AH d.Edges s4.2).bind fun x145=>
 (DP (AJ x145.a1) (s0.1.Graph.Nodes.length:Int)).bind fun x150=>
 (AH d.Edges s4.2).bind fun x154=>
 (DP (AJ x154.a2) (s0.1.Graph.Nodes.length:Int)).bind fun x159=>
 (AH s4.1.Graph.Nodes x150).bind fun x169=>
 (AH s4.1.Graph.Nodes x159).bind fun x176=>
 (K8 t x141 x169 x176).bind fun x178=>
 if x178=true then
 (AX s4.1.Graph.Edges [BX.mk x141 x150 x159]).bind fun x184=>
 some (.next (A0.mk (Graph.mk s4.1.Graph.Nodes x184) s4.1.Values,AJ (s4.2+1)))
 else
 some (.next (s4.1,AJ (s4.2+1)))
 else
 some (.brk (s4.1,s4.2))) (s0.1,0)) (fun s4=>
 some s4.1) (fun v4=>some v4)) (fun v0=>some v0)
def Mb [Ev] (t:Types) (kind:Int) (BD:List Int):Option Int:=
 if (decide ((t.Nodes.length:Int)<=kind))=true then
 some 6
 else
 (AH t.Nodes kind).bind fun x18=>
 if x18.Abstract=true then
 some 13
 else
 (IA t kind).bind fun x24=>
 if (!decide ((BD.length:Int)=(x24.1.length:Int)))=true then
 some 20
 else
 thenR (forR (ρ:=Int) (fun (i0:Int) (_:Unit)=>
 (AH BD i0).bind fun x40=>
 (AH x24.1 i0).bind fun x44=>
 (if (decide (x40<x44.Low))=true then some true else ((AH BD i0).bind fun x51=>
 (AH x24.1 i0).bind fun x55=>
 some (decide (x55.High<x51)))).bind fun x59=>
 if x59=true then
 some (.ret 6)
 else
 some (.next ())) 0 (x24.1.length:Int) ()) (fun _=>
 some 0) (fun v0=>some v0)
def Lb [Ev] (t:Types) (h_1:A0):Option (Int × Int):=
 (IB t).bind fun x15=>
 if (!decide (x15.2=0))=true then
 some ((-1),x15.2)
 else
 (F7 h_1.Graph).bind fun x23=>
 if (!decide (x23=0))=true then
 some ((-1),x23)
 else
 if (!decide ((h_1.Values.length:Int)=(h_1.Graph.Nodes.length:Int)))=true then
 some ((-1),20)
 else
 thenR (forR (ρ:=(Int × Int)) (fun (i0:Int) (_:Unit)=>
 (AH h_1.Graph.Nodes i0).bind fun x48=>
 (AH h_1.Values i0).bind fun x53=>
 (Mb t x48 x53).bind fun x55=>
 if (!decide (x55=0))=true then
 some (.ret (i0,x55))
 else
 some (.next ())) 0 (h_1.Graph.Nodes.length:Int) ()) (fun _=>
 thenR (forR (ρ:=(Int × Int)) (fun (i2:Int) (_:Unit)=>
 (AH h_1.Graph.Edges i2).bind fun x72=>
 if (decide ((t.Edges.length:Int)<=x72.Type'))=true then
 some (.ret (i2,6))
 else
 (AH h_1.Graph.Nodes x72.From).bind fun x89=>
 (AH h_1.Graph.Nodes x72.To).bind fun x96=>
 (K8 t x72.Type' x89 x96).bind fun x98=>
 if (!x98)=true then
 some (.ret (i2,13))
 else
 some (.next ())) 0 (h_1.Graph.Edges.length:Int) ()) (fun _=>
 some ((-1),0)) (fun v2=>some v2)) (fun v0=>some v0)
def Ld [Ev] (t:Types) (p:Pattern) (h_2:A0):Option Int:=
 (F8 t p).bind fun x12=>
 if (!decide (x12=0))=true then
 some x12
 else
 (Lb t h_2).bind fun x19=>
 some x19.2
def GB (s_0:AO) (nodes:List Int):Option Bool:=
 thenR (forR (ρ:=Bool) (fun (i0:Int) (_:Unit)=>
 (AH s_0.p.Edges i0).bind fun x26=>
 if ((decide ((nodes.length:Int)<=x26.From))||(decide ((nodes.length:Int)<=x26.To)))=true then
 some (.next ())
 else
 (forA (fun (i2:Int) (s2:Bool)=>
 (AH s_0.g.Edges i2).bind fun x56=>
 (if s2=true then some true else ((if (decide (x26.Type'=x56.Type'))=true then ((AH nodes x26.From).bind fun x71=>
 some (decide (x56.From=x71))) else some false).bind fun x74=>
 (if x74=true then ((AH nodes x26.To).bind fun x81=>
 some (decide (x56.To=x81))) else some false).bind fun x84=>
 some (x84))).bind fun x85=>
 some x85) 0 (s_0.g.Edges.length:Int) false).bind fun s2=>
 if (!s2)=true then
 some (.ret false)
 else
 some (.next ())) 0 (s_0.p.Edges.length:Int) ()) (fun _=>
 some true) (fun v0=>some v0)
def DM [Ev] (s_0:AO) (l:List Int) (n:Int):Option Bool:=
 thenR (FP (ρ:=Bool) (fun (s0:Int)=>
 if ((decide (s0<(l.length:Int)))&&s_0.injective)=true then
 (AH l s0).bind fun x22=>
 if (decide (x22=n))=true then
 some (.ret true)
 else
 some (.next (AJ (s0+1)))
 else
 some (.brk s0)) 0) (fun s0=>
 some false) (fun v0=>some v0)
def CR [Ev]:Nat->AO->(List Int)->(List Int)->Option AO
 | 0,_,_,_=>none
 | n+1,s_0,nodes,l=>
  if (decide (s_0.most<(s_0.found.length:Int)))=true then
  some s_0
  else
  if (decide ((l.length:Int)=(s_0.p.Edges.length:Int)))=true then
  (AX [] nodes).bind fun x37=>
  (AX [] l).bind fun x40=>
  (AX s_0.found [Morphism.mk x37 x40]).bind fun x43=>
  some (AO.mk s_0.t s_0.p s_0.g s_0.partial_ s_0.injective s_0.most x43)
  else
  (AH s_0.p.Edges (l.length:Int)).bind fun x52=>
  thenR (FP (ρ:=AO) (fun (s0:AO × Int)=>
  if (decide (s0.2<(s0.1.g.Edges.length:Int)))=true then
  (AH s0.1.g.Edges s0.2).bind fun x70=>
  (AH s0.1.partial_.Edges (l.length:Int)).bind fun x78=>
  (if (decide (0<=x78))=true then ((AH s0.1.partial_.Edges (l.length:Int)).bind fun x88=>
  some (!decide (x88=s0.2))) else some false).bind fun x92=>
  (if x92=true then some true else ((DM s0.1 l s0.2).bind fun x97=>
  some (x97))).bind fun x98=>
  (if (x98||(!decide (x52.Type'=x70.Type')))=true then some true else ((AH nodes x52.From).bind fun x112=>
  some (!decide (x70.From=x112)))).bind fun x115=>
  (if x115=true then some true else ((AH nodes x52.To).bind fun x122=>
  some (!decide (x70.To=x122)))).bind fun x125=>
  if x125=true then
  some (.next (s0.1,AJ (s0.2+1)))
  else
  (AX [] l).bind fun x130=>
  (AX x130 [s0.2]).bind fun x133=>
  (CR n s0.1 nodes x133).bind fun x134=>
  some (.next (x134,AJ (s0.2+1)))
  else
  some (.brk (s0.1,s0.2))) (s_0,0)) (fun s0=>
  some s0.1) (fun v0=>some v0)
def Lw [Ev] (s_0:AO) (nodes:List Int) (l:List Int):Option AO:=Jg fun n=>CR n s_0 nodes l
def CS [Ev]:Nat->AO->(List Int)->Option AO
 | 0,_,_=>none
 | n+1,s_0,l=>
  (if (decide (s_0.most<(s_0.found.length:Int)))=true then some true else ((GB s_0 l).bind fun x19=>
  some (!x19))).bind fun x21=>
  if x21=true then
  some s_0
  else
  if (decide ((l.length:Int)=(s_0.p.Nodes.length:Int)))=true then
  (Lw s_0 l []).bind fun x34=>
  some x34
  else
  thenR (FP (ρ:=AO) (fun (s0:AO × Int)=>
  if (decide (s0.2<(s0.1.g.Nodes.length:Int)))=true then
  (AH s0.1.partial_.Nodes (l.length:Int)).bind fun x51=>
  (if (decide (0<=x51))=true then ((AH s0.1.partial_.Nodes (l.length:Int)).bind fun x61=>
  some (!decide (x61=s0.2))) else some false).bind fun x65=>
  (if x65=true then some true else ((DM s0.1 l s0.2).bind fun x70=>
  some (x70))).bind fun x71=>
  (if x71=true then some true else ((AH s0.1.g.Nodes s0.2).bind fun x83=>
  (AH s0.1.p.Nodes (l.length:Int)).bind fun x91=>
  (HP s0.1.t x83 x91).bind fun x93=>
  some (!x93))).bind fun x95=>
  if x95=true then
  some (.next (s0.1,AJ (s0.2+1)))
  else
  (AX [] l).bind fun x99=>
  (AX x99 [s0.2]).bind fun x102=>
  (CS n s0.1 x102).bind fun x103=>
  some (.next (x103,AJ (s0.2+1)))
  else
  some (.brk (s0.1,s0.2))) (s_0,0)) (fun s0=>
  some s0.1) (fun v0=>some v0)
def JR [Ev] (s_0:AO) (l:List Int):Option AO:=Jg fun n=>CS n s_0 l
def NZ [Ev] (t:Types) (p:Graph) (g:Graph) (partial_:Morphism) (injective:Bool) (most:Int):Option (List Morphism):=
 (JR (AO.mk t p g partial_ injective most []) []).bind fun x23=>
 some x23.found
def Md [Ev] (p:Graph):Option Morphism:=
 (Kf (p.Nodes.length:Int) 0).bind fun x9=>
 (Kf (p.Edges.length:Int) 0).bind fun x13=>
 thenR (FP (ρ:=Morphism) (fun (s0:Morphism × Int)=>
 if (decide (s0.2<(s0.1.Nodes.length:Int)))=true then
 (AH s0.1.Nodes s0.2).bind fun x25=>
 some (.next (Morphism.mk (CT s0.1.Nodes s0.2 (-1)) s0.1.Edges,AJ (s0.2+1)))
 else
 some (.brk (s0.1,s0.2))) (Morphism.mk x9 x13,0)) (fun s0=>
 thenR (FP (ρ:=Morphism) (fun (s2:Morphism × Int)=>
 if (decide (s2.2<(s2.1.Edges.length:Int)))=true then
 (AH s2.1.Edges s2.2).bind fun x36=>
 some (.next (Morphism.mk s2.1.Nodes (CT s2.1.Edges s2.2 (-1)),AJ (s2.2+1)))
 else
 some (.brk (s2.1,s2.2))) (s0.1,0)) (fun s2=>
 some s2.1) (fun v2=>some v2)) (fun v0=>some v0)
def NY [Ev] (t:Types) (p:Graph) (g:Graph) (injective:Bool):Option (List Morphism × Int):=
 (KP t p g).bind fun x15=>
 if (!decide (x15=0))=true then
 some ([],x15)
 else
 (Md p).bind fun x23=>
 (NZ t p g x23 injective 5000).bind fun x25=>
 if (decide (5000<(x25.length:Int)))=true then
 some ([],3)
 else
 some (x25,0)
def KS (x_0:Term) (BD:List Int):Option Int:=
 if (decide (x_0.Var<0))=true then
 some x_0.Add
 else
 (AH BD x_0.Var).bind fun x13=>
 some (AJ (x13+x_0.Add))
def KJ (t:Term) (BD:List Int):Option (Int × Bool):=
 if (decide (t.Var=(-1)))=true then
 some (t.Add,true)
 else
 if ((decide (t.Var<0))||(decide ((BD.length:Int)<=t.Var)))=true then
 some (0,false)
 else
 (AH BD t.Var).bind fun x24=>
 some (AJ (x24+t.Add),true)
def LY (x_0:Test) (BD:List Int):Option Bool:=
 (KJ x_0.Left BD).bind fun x13=>
 (KJ x_0.Right BD).bind fun x20=>
 if ((!x13.2)||(!x20.2))=true then
 some false
 else
 some (((decide (x_0.Kind=1))&&(decide (x13.1<=x20.1)))||((decide (x_0.Kind=2))&&(decide (x13.1=x20.1))))
def Ja (p:Pattern) (h_1:A0) (m:Morphism):Option (List Int × Int):=
 (Kf p.Vars 0).bind fun x17=>
 (Kf p.Vars false).bind fun x20=>
 thenR (forR (ρ:=(List Int × Int)) (fun (i0:Int) (s0:List Int × List Bool)=>
 (AH p.Slots i0).bind fun x31=>
 (AH m.Nodes x31.Node).bind fun x39=>
 (AH h_1.Values x39).bind fun x41=>
 (AH x41 x31.Attr).bind fun x45=>
 (if (decide (0<=x31.Term.Var))=true then ((AH s0.2 x31.Term.Var).bind fun x55=>
 some (!x55)) else some false).bind fun x58=>
 if x58=true then
 (AH s0.2 x31.Term.Var).bind fun x61=>
 (AH s0.1 x31.Term.Var).bind fun x69=>
 (KS x31.Term (CT s0.1 x31.Term.Var (AJ (x45 - x31.Term.Add)))).bind fun x73=>
 if (!decide (x73=x45))=true then
 some (.ret ([],11))
 else
 some (.next (CT s0.1 x31.Term.Var (AJ (x45 - x31.Term.Add)),CT s0.2 x31.Term.Var true))
 else
 (KS x31.Term s0.1).bind fun x73=>
 if (!decide (x73=x45))=true then
 some (.ret ([],11))
 else
 some (.next (s0.1,s0.2))) 0 (p.Slots.length:Int) (x17,x20)) (fun s0=>
 thenR (forR (ρ:=(List Int × Int)) (fun (i2:Int) (_:Unit)=>
 (AH p.Tests i2).bind fun x86=>
 (LY x86 s0.1).bind fun x89=>
 if (!x89)=true then
 some (.ret ([],16))
 else
 some (.next ())) 0 (p.Tests.length:Int) ()) (fun _=>
 some (s0.1,0)) (fun v2=>some v2)) (fun v0=>some v0)
def KC [Ev] (t:Types) (p:Pattern) (h_2:A0) (injective:Bool):Option (List AL × Int):=
 (Ld t p h_2).bind fun x20=>
 if (!decide (x20=0))=true then
 some ([],x20)
 else
 (NY t p.Graph h_2.Graph injective).bind fun x31=>
 if (!decide (x31.2=0))=true then
 some ([],x31.2)
 else
 (forA (fun (i0:Int) (s0:List AL)=>
 (AH x31.1 i0).bind fun x48=>
 (Ja p h_2 x48).bind fun x50=>
 if (decide (x50.2=0))=true then
 (AH x31.1 i0).bind fun x58=>
 (AX s0 [AL.mk x58 x50.1]).bind fun x63=>
 some x63
 else
 some s0) 0 (x31.1.length:Int) []).bind fun s0=>
 some (s0,0)
def MQ [Ev] (d:HC) (injective:Bool):Option (Types × K6 × A0 × List AL × Bool):=
 (MW d.Types d.Ends).bind fun x19=>
 (Me x19 d.P).bind fun x23=>
 (if (decide (3<(AJ ((x23.Graph.Nodes.length:Int)+(x23.Graph.Edges.length:Int)))))=true then some true else ((F8 x19 x23).bind fun x41=>
 some (!decide (x41=0)))).bind fun x43=>
 if x43=true then
 some (x19,K6.mk x23 (AA.mk 0 [] (Morphism.mk [] []) (Pattern.mk (Graph.mk [] []) [] 0 [])),A0.mk (Graph.mk [] []) [],[],false)
 else
 (Mg x19 x23 d.C).bind fun x52=>
 (slc d.H.Nodes 0 (min (d.H.Nodes.length:Int) 5)).bind fun x62=>
 (slc d.H.Edges 0 (min (d.H.Edges.length:Int) 6)).bind fun x71=>
 (Ma x19 (JB.mk x62 x71)).bind fun x79=>
 (KC x19 x23 x79 injective).bind fun x86=>
 (if ((decide (x86.2=0))&&(decide ((x86.1.length:Int)<=30)))=true then ((KT x19 x23 x52).bind fun x102=>
 some (decide (x102=0))) else some false).bind fun x104=>
 (if x104=true then ((Lf x19 x23 x52 x79).bind fun x112=>
 some (x112)) else some false).bind fun x113=>
 some (x19,K6.mk x23 x52,x79,x86.1,x113)
def D7 (c:AA):Option Bool:=
 (if (decide (c.Kind=2))=true then ((AH c.Kids 0).bind fun x9=>
 some (decide (x9.Kind=1))) else some false).bind fun x13=>
 some x13
def Hy :Option AA:=
 some (AA.mk 1 [] (Morphism.mk [] []) (Pattern.mk (Graph.mk [] []) [] 0 []))
def JT :Option AA:=
 (Hy).bind fun x1=>
 some (AA.mk 2 [x1] (Morphism.mk [] []) (Pattern.mk (Graph.mk [] []) [] 0 []))
def FB (c:AA):Option Bool:=
 some (decide (c.Kind=1))
def JL (s1_0:List BX) (s2_1:List BX):Option Bool:=
 if (!decide ((s1_0.length:Int)=(s2_1.length:Int)))=true then
 some false
 else
 thenR (forR (ρ:=Bool) (fun (i0:Int) (_:Unit)=>
 (AH s1_0 i0).bind fun x18=>
 (AH s2_1 i0).bind fun x22=>
 if (!decide (x18=x22))=true then
 some (.ret false)
 else
 some (.next ())) 0 (s1_0.length:Int) ()) (fun _=>
 some true) (fun v0=>some v0)
def JM (s1_0:List B4) (s2_1:List B4):Option Bool:=
 if (!decide ((s1_0.length:Int)=(s2_1.length:Int)))=true then
 some false
 else
 thenR (forR (ρ:=Bool) (fun (i0:Int) (_:Unit)=>
 (AH s1_0 i0).bind fun x18=>
 (AH s2_1 i0).bind fun x22=>
 if (!decide (x18=x22))=true then
 some (.ret false)
 else
 some (.next ())) 0 (s1_0.length:Int) ()) (fun _=>
 some true) (fun v0=>some v0)
def JN (s1_0:List Test) (s2_1:List Test):Option Bool:=
 if (!decide ((s1_0.length:Int)=(s2_1.length:Int)))=true then
 some false
 else
 thenR (forR (ρ:=Bool) (fun (i0:Int) (_:Unit)=>
 (AH s1_0 i0).bind fun x18=>
 (AH s2_1 i0).bind fun x22=>
 if (!decide (x18=x22))=true then
 some (.ret false)
 else
 some (.next ())) 0 (s1_0.length:Int) ()) (fun _=>
 some true) (fun v0=>some v0)
def D5 [Ev] (s1_0:List AA) (s2_1:List AA) (eq:AA->AA->Option Bool):Option Bool:=
 if (!decide ((s1_0.length:Int)=(s2_1.length:Int)))=true then
 some false
 else
 thenR (forR (ρ:=Bool) (fun (i0:Int) (_:Unit)=>
 (AH s1_0 i0).bind fun x20=>
 (AH s2_1 i0).bind fun x24=>
 (eq x20 x24).bind fun x29=>
 if (!x29)=true then
 some (.ret false)
 else
 some (.next ())) 0 (s1_0.length:Int) ()) (fun _=>
 some true) (fun v0=>some v0)
def ED [Ev]:Nat->AA->AA->Option Bool
 | 0,_,_=>none
 | n+1,a,b=>
  (if (!decide (a.Kind=b.Kind))=true then some true else ((If a.Map b.Map).bind fun x21=>
  some (!x21))).bind fun x23=>
  (if (x23||(!decide (a.Pattern.Vars=b.Pattern.Vars)))=true then some true else ((ER a.Pattern.Graph.Nodes b.Pattern.Graph.Nodes).bind fun x38=>
  some (!x38))).bind fun x40=>
  (if x40=true then some true else ((JL a.Pattern.Graph.Edges b.Pattern.Graph.Edges).bind fun x48=>
  some (!x48))).bind fun x50=>
  if x50=true then
  some false
  else
  (JM a.Pattern.Slots b.Pattern.Slots).bind fun x55=>
  (if x55=true then ((JN a.Pattern.Tests b.Pattern.Tests).bind fun x61=>
  some (x61)) else some false).bind fun x62=>
  (if x62=true then ((D5 a.Kids b.Kids (ED n)).bind fun x68=>
  some (x68)) else some false).bind fun x69=>
  some x69
def Mu [Ev] (a:AA) (b:AA):Option Bool:=Jg fun n=>ED n a b
def G6 [Ev] (x_0:AA) (c0:AA):Option Bool:=
 (Mu x_0 c0).bind fun x6=>
 some x6
def G5 [Ev] (kind:Int) (kids:List AA):Option AA:=
 (Hy).bind fun x15=>
 (JT).bind fun x16=>
 if (decide (kind=4))=true then
 (JT).bind fun x19=>
 (Hy).bind fun x20=>
 (forA (fun (i0:Int) (s0:List AA)=>
 (AH kids i0).bind fun x25=>
 if (decide (x25.Kind=kind))=true then
 (AX s0 x25.Kids).bind fun x34=>
 some x34
 else
 (AX s0 [x25]).bind fun x38=>
 some x38) 0 (kids.length:Int) []).bind fun s0=>
 thenR (forR (ρ:=AA) (fun (i2:Int) (s2:AA × List AA)=>
 (AH s0 i2).bind fun x44=>
 (FB x44).bind fun x48=>
 if x48=true then
 some (.ret x20)
 else
 (D7 x44).bind fun x52=>
 (if (!x52)=true then ((BC s2.2 (fun y0=>G6 y0 x44)).bind fun x57=>
 some (!x57)) else some false).bind fun x59=>
 if x59=true then
 (AX s2.2 [x44]).bind fun x63=>
 some (.next (s2.1,x63))
 else
 some (.next (s2.1,s2.2))) 0 (s0.length:Int) (AA.mk 0 [] (Morphism.mk [] []) (Pattern.mk (Graph.mk [] []) [] 0 []),[])) (fun s2=>
 if (decide ((s2.2.length:Int)=0))=true then
 some x19
 else
 if (decide ((s2.2.length:Int)=1))=true then
 (AH s2.2 0).bind fun x73=>
 some x73
 else
 some (AA.mk kind s2.2 (Morphism.mk [] []) (Pattern.mk (Graph.mk [] []) [] 0 []))) (fun v2=>some v2)
 else
 (forA (fun (i0:Int) (s0:List AA)=>
 (AH kids i0).bind fun x25=>
 if (decide (x25.Kind=kind))=true then
 (AX s0 x25.Kids).bind fun x34=>
 some x34
 else
 (AX s0 [x25]).bind fun x38=>
 some x38) 0 (kids.length:Int) []).bind fun s0=>
 thenR (forR (ρ:=AA) (fun (i2:Int) (s2:AA × List AA)=>
 (AH s0 i2).bind fun x44=>
 (D7 x44).bind fun x48=>
 if x48=true then
 some (.ret x16)
 else
 (FB x44).bind fun x52=>
 (if (!x52)=true then ((BC s2.2 (fun y0=>G6 y0 x44)).bind fun x57=>
 some (!x57)) else some false).bind fun x59=>
 if x59=true then
 (AX s2.2 [x44]).bind fun x63=>
 some (.next (s2.1,x63))
 else
 some (.next (s2.1,s2.2))) 0 (s0.length:Int) (AA.mk 0 [] (Morphism.mk [] []) (Pattern.mk (Graph.mk [] []) [] 0 []),[])) (fun s2=>
 if (decide ((s2.2.length:Int)=0))=true then
 some x15
 else
 if (decide ((s2.2.length:Int)=1))=true then
 (AH s2.2 0).bind fun x73=>
 some x73
 else
 some (AA.mk kind s2.2 (Morphism.mk [] []) (Pattern.mk (Graph.mk [] []) [] 0 []))) (fun v2=>some v2)
def JI (s_0:List BX):Option (List BX):=
 AX [] s_0
def JJ (s_0:List B4):Option (List B4):=
 AX [] s_0
def JK (s_0:List Test):Option (List Test):=
 AX [] s_0
def IN (p:Pattern):Option Pattern:=
 (slices_Clone_int p.Graph.Nodes).bind fun x6=>
 (JI p.Graph.Edges).bind fun x10=>
 (JJ p.Slots).bind fun x14=>
 (JK p.Tests).bind fun x19=>
 some (Pattern.mk (Graph.mk x6 x10) x14 p.Vars x19)
def DH [Ev]:Nat->AA->Option AA
 | 0,_=>none
 | n+1,c=>
  (forA (fun (i0:Int) (s0:List AA)=>
  (AH c.Kids i0).bind fun x12=>
  (DH n x12).bind fun x16=>
  (AX s0 [x16]).bind fun x18=>
  some x18) 0 (c.Kids.length:Int) []).bind fun s0=>
  if (decide (c.Kind=2))=true then
  (AH s0 0).bind fun x25=>
  if (decide (x25.Kind=2))=true then
  (AH s0 0).bind fun x30=>
  (AH x30.Kids 0).bind fun x33=>
  some x33
  else
  some (AA.mk 2 s0 (Morphism.mk [] []) (Pattern.mk (Graph.mk [] []) [] 0 []))
  else
  (if (decide (c.Kind=3))=true then
  some (decide (c.Kind=3))
  else
  some (decide (c.Kind=4))).bind fun w1=>
  if w1=true then
  (G5 c.Kind s0).bind fun x43=>
  some x43
  else
  if (decide (c.Kind=5))=true then
  (AH s0 0).bind fun x47=>
  (D7 x47).bind fun x49=>
  if x49=true then
  (JT).bind fun x50=>
  some x50
  else
  (slices_Clone_int c.Map.Nodes).bind fun x54=>
  (slices_Clone_int c.Map.Edges).bind fun x58=>
  (IN c.Pattern).bind fun x64=>
  some (AA.mk 5 s0 (Morphism.mk x54 x58) x64)
  else
  (Hy).bind fun x66=>
  some x66
def Kn [Ev] (c:AA):Option AA:=Jg fun n=>DH n c
def HK [Ev] (c:AA):Option (AA × Int):=
 (EF c).bind fun x6=>
 if (!decide (x6=0))=true then
 some (AA.mk 0 [] (Morphism.mk [] []) (Pattern.mk (Graph.mk [] []) [] 0 []),x6)
 else
 (Kn c).bind fun x12=>
 some (x12,0)
def F3 [Ev] (d:HC) (injective:Bool):Option Bool:=
 (F6).bind fun x18=>
 if (!x18)=true then
 some false
 else
 (MQ d injective).bind fun x23=>
 if (!x23.2.2.2.2)=true then
 some true
 else
 (HK x23.2.1.C).bind fun x34=>
 if (!decide (x34.2=0))=true then
 some false
 else
 thenR (forR (ρ:=Bool) (fun (i0:Int) (_:Unit)=>
 (AH x23.2.2.2.1 i0).bind fun x43=>
 (CM x23.1 x23.2.1.P x23.2.1.C x23.2.2.1 x43 injective).bind fun x54=>
 (CM x23.1 x23.2.1.P x34.1 x23.2.2.1 x43 injective).bind fun x65=>
 if (((!decide (x54.2=0))||(!decide (x65.2=0)))||(!(x54.1==x65.1)))=true then
 some (.ret false)
 else
 some (.next ())) 0 (x23.2.2.2.1.length:Int) ()) (fun _=>
 some true) (fun v0=>some v0)
end
end Go.Sf.Sc
