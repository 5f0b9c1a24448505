/- The program's structures,as data. Written by dec3.py. -/
import Derived.Test.YtfkhlbhjhdpkoaaDoorZtaj
set_option linter.unusedVariables false
set_option linter.unusedSimpArgs false
namespace Go.Proofs.YtfkhlbhjhdpkoaaDoor
open Go.RowKit
structure Source where
 Path:List UInt8
 Text:List UInt8
 deriving Inhabited,DecidableEq
def Ja(x:Source):D:=.ag [.v (str x.Path),.v (str x.Text)]
theorem Jic(x y:Source)(h:Ja x=Ja y):x=y:=by
 rcases x with⟨_,_⟩; rcases y with⟨_,_⟩
 simp only[Ja,D.ag.injEq,List.cons.injEq,and_true]at h
 obtain⟨h0,h1⟩:=h
 have h0:=Jbo _ _ h0
 have h1:=Jbo _ _ h1
 subst_vars
 rfl
theorem Jg9(x y:Source)(h:VC (Ja x)=VC (Ja y)):x=y:=by
 rcases x with⟨_,_⟩; rcases y with⟨_,_⟩
 simp only[Ja,VC,Ja6,List.map_cons,List.map_nil,D.ag.injEq,List.cons.injEq,and_true]at h
 obtain⟨h0,h1⟩:=h
 have h0:=Jbo _ _ h0
 have h1:=Jbo _ _ h1
 subst_vars
 rfl
theorem Je1(x:Source):(Ja x).cells.all D.one=true:=rfl
instance:DInj Ja:=⟨Jg9,Jic⟩
structure Fault where
 Err:Int
 File:Int
 At:Int
 deriving Inhabited,DecidableEq
def Vw(x:Fault):D:=.ag [.v (.int .i64 x.Err),.v (.int .i64 x.File),.v (.int .i64 x.At)]
theorem JiJ(x y:Fault)(h:Vw x=Vw y):x=y:=by
 rcases x with⟨_,_,_⟩; rcases y with⟨_,_,_⟩
 simp only[Vw,D.ag.injEq,List.cons.injEq,and_true]at h
 obtain⟨h0,h1,h2⟩:=h
 have h0:=XI _ _ h0
 have h1:=XI _ _ h1
 have h2:=XI _ _ h2
 subst_vars
 rfl
theorem Jih(x y:Fault)(h:VC (Vw x)=VC (Vw y)):x=y:=by
 rcases x with⟨_,_,_⟩; rcases y with⟨_,_,_⟩
 simp only[Vw,VC,Ja6,List.map_cons,List.map_nil,D.ag.injEq,List.cons.injEq,and_true]at h
 obtain⟨h0,h1,h2⟩:=h
 have h0:=XI _ _ h0
 have h1:=XI _ _ h1
 have h2:=XI _ _ h2
 subst_vars
 rfl
instance:DInj Vw:=⟨Jih,JiJ⟩
structure Edit where
 File:Int
 From:Int
 To:Int
 Text:List UInt8
 deriving Inhabited,DecidableEq
def Jb(x:Edit):D:=.ag [.v (.int .i64 x.File),.v (.int .i64 x.From),.v (.int .i64 x.To),.v (str x.Text)]
theorem JjA(x y:Edit)(h:Jb x=Jb y):x=y:=by
 rcases x with⟨_,_,_,_⟩; rcases y with⟨_,_,_,_⟩
 simp only[Jb,D.ag.injEq,List.cons.injEq,and_true]at h
 obtain⟨h0,h1,h2,h3⟩:=h
 have h0:=XI _ _ h0
 have h1:=XI _ _ h1
 have h2:=XI _ _ h2
 have h3:=Jbo _ _ h3
 subst_vars
 rfl
theorem JiI(x y:Edit)(h:VC (Jb x)=VC (Jb y)):x=y:=by
 rcases x with⟨_,_,_,_⟩; rcases y with⟨_,_,_,_⟩
 simp only[Jb,VC,Ja6,List.map_cons,List.map_nil,D.ag.injEq,List.cons.injEq,and_true]at h
 obtain⟨h0,h1,h2,h3⟩:=h
 have h0:=XI _ _ h0
 have h1:=XI _ _ h1
 have h2:=XI _ _ h2
 have h3:=Jbo _ _ h3
 subst_vars
 rfl
theorem Jbi(x:Edit):(Jb x).cells.all D.one=true:=rfl
instance:DInj Jb:=⟨JiI,JjA⟩
end Go.Proofs.YtfkhlbhjhdpkoaaDoor
