/- The program's structures,as data. Written by dec3.py. -/
import Derived.Test.YtfkhlbhjhdpkoaaDoorZbaj
set_option linter.unusedVariables false
set_option linter.unusedSimpArgs false
namespace Go.Proofs.YtfkhlbhjhdpkoaaDoor
open Go.RowKit
structure Source where
 Path:List UInt8
 Text:List UInt8
 deriving Inhabited,DecidableEq
def Jb(x:Source):D:=.ag [.v (str x.Path),.v (str x.Text)]
theorem Jfn(x y:Source)(h:Jb x=Jb y):x=y:=by
 rcases x with⟨_,_⟩; rcases y with⟨_,_⟩
 simp only[Jb,D.ag.injEq,List.cons.injEq,and_true]at h
 obtain⟨h0,h1⟩:=h
 have h0:=Z1 _ _ h0
 have h1:=Z1 _ _ h1
 subst_vars
 rfl
theorem JeJ(x y:Source)(h:K4 (Jb x)=K4 (Jb y)):x=y:=by
 rcases x with⟨_,_⟩; rcases y with⟨_,_⟩
 simp only[Jb,K4,ZH,List.map_cons,List.map_nil,D.ag.injEq,List.cons.injEq,and_true]at h
 obtain⟨h0,h1⟩:=h
 have h0:=Z1 _ _ h0
 have h1:=Z1 _ _ h1
 subst_vars
 rfl
theorem Jho(x:Source):(Jb x).cells.all D.one=true:=rfl
instance:DInj Jb:=⟨JeJ,Jfn⟩
structure Fault where
 Err:Int
 File:Int
 At:Int
 deriving Inhabited,DecidableEq
def VB(x:Fault):D:=.ag [.v (.int .i64 x.Err),.v (.int .i64 x.File),.v (.int .i64 x.At)]
theorem Jf6(x y:Fault)(h:VB x=VB y):x=y:=by
 rcases x with⟨_,_,_⟩; rcases y with⟨_,_,_⟩
 simp only[VB,D.ag.injEq,List.cons.injEq,and_true]at h
 obtain⟨h0,h1,h2⟩:=h
 have h0:=VG _ _ h0
 have h1:=VG _ _ h1
 have h2:=VG _ _ h2
 subst_vars
 rfl
theorem JfL(x y:Fault)(h:K4 (VB x)=K4 (VB y)):x=y:=by
 rcases x with⟨_,_,_⟩; rcases y with⟨_,_,_⟩
 simp only[VB,K4,ZH,List.map_cons,List.map_nil,D.ag.injEq,List.cons.injEq,and_true]at h
 obtain⟨h0,h1,h2⟩:=h
 have h0:=VG _ _ h0
 have h1:=VG _ _ h1
 have h2:=VG _ _ h2
 subst_vars
 rfl
instance:DInj VB:=⟨JfL,Jf6⟩
structure Edit where
 File:Int
 From:Int
 To:Int
 Text:List UInt8
 deriving Inhabited,DecidableEq
def Ja(x:Edit):D:=.ag [.v (.int .i64 x.File),.v (.int .i64 x.From),.v (.int .i64 x.To),.v (str x.Text)]
theorem JgZ(x y:Edit)(h:Ja x=Ja y):x=y:=by
 rcases x with⟨_,_,_,_⟩; rcases y with⟨_,_,_,_⟩
 simp only[Ja,D.ag.injEq,List.cons.injEq,and_true]at h
 obtain⟨h0,h1,h2,h3⟩:=h
 have h0:=VG _ _ h0
 have h1:=VG _ _ h1
 have h2:=VG _ _ h2
 have h3:=Z1 _ _ h3
 subst_vars
 rfl
theorem Jf5(x y:Edit)(h:K4 (Ja x)=K4 (Ja y)):x=y:=by
 rcases x with⟨_,_,_,_⟩; rcases y with⟨_,_,_,_⟩
 simp only[Ja,K4,ZH,List.map_cons,List.map_nil,D.ag.injEq,List.cons.injEq,and_true]at h
 obtain⟨h0,h1,h2,h3⟩:=h
 have h0:=VG _ _ h0
 have h1:=VG _ _ h1
 have h2:=VG _ _ h2
 have h3:=Z1 _ _ h3
 subst_vars
 rfl
theorem JiC(x:Edit):(Ja x).cells.all D.one=true:=rfl
instance:DInj Ja:=⟨Jf5,JgZ⟩
end Go.Proofs.YtfkhlbhjhdpkoaaDoor
