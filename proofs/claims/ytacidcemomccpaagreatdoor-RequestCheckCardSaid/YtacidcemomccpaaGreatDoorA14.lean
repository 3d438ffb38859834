import Derived.Test.YtacidcemomccpaaGreatDoorA13
set_option linter.all false
namespace Go.Proofs.YtacidcemomccpaaGreatDoor.Vm
noncomputable section
open Go.Proofs Go.Proofs.Tryz
def Aob:A0n:=[A0l 3 [5],A0l 10 [0,1,2,4,5,13]]
def Arb:Lk:=⟨[],[(10,⟨[(0,.i),(1,.i),(2,.i),(4,.i),(5,.c xs),(13,.c x64)],[]⟩,[(0,⟨[(5,.c xs)],[]⟩)])]⟩
def vV (N:Nat):=JO 206 [Jw,Jz,Jz,Jz,Jz,Jw] [Jw] (λa=>ZB N a.1 a.2.1 a.2.2.1 a.2.2.2.1 a.2.2.2.2.1 a.2.2.2.2.2) [Aen N,Amv N,TP N] Aob Arb f206 N
def AaU (N:Nat):=JB 207 [Jw,Jz,Sq1] [Jw] (λa=>YD N a.1 a.2.1 a.2.2) [Aen N,AfU N,TP N] f207 N
def lZ (N:Nat):=JB 107 [Sq6,Jz,Jw] [Jw] (λa=>Pg N a.1 a.2.1 a.2.2) [oC N,TP N] f107 N
def mD (N:Nat):=JB 108 [Jw,Jz,Jz,Jw,Jw] [Jw] (λa=>Ph N a.1 a.2.1 a.2.2.1 a.2.2.2.1 a.2.2.2.2) [AnU N,oC N,TP N] f108 N
def WT (N:Nat):Alt:=.of [.cell false .str,.cell false (.int .i64)] [Ag4,.cell false (.int .i64)] [.cell false .ptr,.cell false (.int .i64)] (λa=>Vz N a.1 a.2)
def yN (N:Nat):Spec Tryz.prog 113 (WT N).1/\Spec Tryz.prog 113 (WT N).2.1:=Yf (C:=ctx Tryz.prog (ksp [TP N]) [] [] [] [23]) (L:=⟨[],[]⟩) (fn:=f113) (N:=N) (MB (Oe _)) (by kernel_rfl) (by kernel_rfl) (λa=>by kernel_rfl)
def nR:A0n:=[A0l 3 [],A0l 11 [0,13,14,15],A0l 26 [0,13,14,15],A0l 62 [0,4,13,14,15,41,42,43]]
def qM:Lk:=⟨[],[(26,⟨[(0,.i),(13,.i),(14,.i),(15,.c x64)],[]⟩,[(0,⟨[],[]⟩)]),(62,⟨[(0,.i),(4,.c AU),(13,.i),(14,.i),(15,.i),(41,.i),(42,.i),(43,.c x64)],[(Az0,.box [xs,x64,xs])]⟩,[(2,⟨[(0,.i),(13,.i),(14,.i),(15,.i)],[]⟩)])]⟩
def qN (N:Nat):=JO 85 [.cell false (.sl 84 Tq0)] [Jz] (Px N) [⟨180,Xe N,TV N⟩,Anf N] nR qM f85 N
def Aav (N:Nat):=JO 270 [Jz,Jw,JQ] [JQ] (λa=>PI N a.1 a.2.1 a.2.2) [Afw N,Adb N,AnD N,Ahl N,AlI N,Ahk N] [] A0o f270 N (bb:=[11,14,15,18,21,22,26,29,30,33,36,37,41,44,45,48,51,52])
def Ajk:A0n:=[(3,⟨[5],[([5],9,Aq,Azt)],[],[(Azs,Azt)],[]⟩),(26,⟨[5,17,18,19],[([5],9,Aq,Azs)],[],[(41216,Azs)],[]⟩)]
def Alv:Lk:=⟨[],[(26,⟨[(5,.c (xo Azs)),(17,.i),(18,.i),(19,.c x64)],[(Azs,.arr 9 false Aq)]⟩,[(0,⟨[(5,.c (xo Azt))],[(Azt,.arr 9 false Aq)]⟩)])]⟩
def Aly (N:Nat):=JO 26 [.cell false (.sl 118 Tq3)] [Jw,Jz] (fK N) [⟨68,ZR N,Ahc N⟩,Afm N,PW N] Ajk Alv f26 N
end
end Go.Proofs.YtacidcemomccpaaGreatDoor.Vm
