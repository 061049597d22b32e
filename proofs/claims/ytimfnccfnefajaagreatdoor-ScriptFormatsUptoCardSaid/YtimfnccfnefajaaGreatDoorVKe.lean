/- A part of the proof: KTitB, KTitK -/
import Derived.Test.YtimfnccfnefajaaGreatDoorVKd
set_option linter.unusedSimpArgs false
set_option linter.unusedVariables false
namespace Go.Ev
open Go.Proofs
noncomputable section
set_option maxRecDepth 100000
def lArg (x:Option (Nat×Nat)) (l c:Nat):AV:=.slice x l c false
def frT (x:Option (Nat×Nat)) (l c:Nat) (how:Int):Fr:=⟨71,12,Tr.ofList [lArg x l c,i64 how],[]⟩
def sT:St:={ H:=.leaf,k:=13 }
def cl:Code→Code:=fun c=>@Code.casesOn (fun _=>Code) c .skip (fun _ _ _=>.skip) (fun a _=>a) (fun _ _ _=>.skip) (fun _ _=>.skip) (fun _=>.skip) (fun _ _ _ _=>.skip) (fun _=>.skip) (fun _=>.skip) (fun _=>.skip) (fun _=>.skip) .skip (fun _=>.skip)
def cr:Code→Code:=fun c=>@Code.casesOn (fun _=>Code) c .skip (fun _ _ _=>.skip) (fun _ b=>b) (fun _ _ _=>.skip) (fun _ _=>.skip) (fun _=>.skip) (fun _ _ _ _=>.skip) (fun _=>.skip) (fun _=>.skip) (fun _=>.skip) (fun _=>.skip) .skip (fun _=>.skip)
def co:Code→List Oper:=fun c=>@Code.casesOn (fun _=>List Oper) c [] (fun _ o _=>o.toList) (fun _ _=>[]) (fun _ _ _=>[]) (fun _ _=>[]) (fun _=>[]) (fun _ _ _ _=>[]) (fun _=>[]) (fun _=>[]) (fun _=>[]) (fun _=>[]) [] (fun _=>[])
def b8:Code:=oelim Tryz.f8.body .skip fun c=>c
def g0:List Oper:=co (cl b8)
def g1:List Oper:=co (cl (cr b8))
def g2:List Oper:=co (cl (cr (cr b8)))
def g3:List Oper:=co (cl (cr (cr (cr b8))))
def g4:List Oper:=co (cl (cr (cr (cr (cr b8)))))
def g5:List Oper:=co (cl (cr (cr (cr (cr (cr b8))))))
abbrev OFS:=Option FS
def go (m:Int) (all l:List Oper) (p:OFS):OFS:=obind p fun p=>runOps env (recA 3000) (kMem m) all l p.1 p.2
def putT (d:Tmp) (v:AV) (p:OFS):OFS:=obind p fun p=>omap (fun f=>(f,p.2)) (putD (some d) v p.1)
def q1 (x:Option (Nat×Nat)) (l c:Nat) (how m:Int):OFS:=go m g0 g0 (some (frT x l c how,sT))
def q2 (x:Option (Nat×Nat)) (l c:Nat) (how m:Int):OFS:=go m g1 (ltake 3 g1) (q1 x l c how m)
def q3 (x:Option (Nat×Nat)) (l c:Nat) (how m r1:Int):OFS:=go m g1 (ldrop 4 g1) (putT 14 (i64 r1) (q2 x l c how m))
def q4 (x:Option (Nat×Nat)) (l c:Nat) (how m r1:Int):OFS:=go m g2 g2 (q3 x l c how m r1)
def q5 (x:Option (Nat×Nat)) (l c:Nat) (how m r1:Int):OFS:=go m g3 (ltake 9 g3) (q4 x l c how m r1)
def q6 (x:Option (Nat×Nat)) (l c:Nat) (how m r1 r2:Int):OFS:=go m g3 (ldrop 10 g3) (putT 28 (i64 r2) (q5 x l c how m r1))
def q7 (x:Option (Nat×Nat)) (l c:Nat) (how m r1 r2:Int):OFS:=go m g4 g4 (q6 x l c how m r1 r2)
def q8 (x:Option (Nat×Nat)) (l c:Nat) (how m r1 r2:Int):OFS:=obind (q7 x l c how m r1 r2) fun p=>runDraw env (recA 3000) (kMem m) g5 p.1 p.2
end
end Go.Ev
namespace Go.Ev
open Go.Proofs
set_option maxRecDepth 100000
end Go.Ev
