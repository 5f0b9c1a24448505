/- The program's structures,as data. Written by dec3.py. -/
import Derived.Test.YtfkhlbhjhdpkoaaDoorZoaj
set_option linter.unusedVariables false
set_option linter.unusedSimpArgs false
namespace Go.Proofs.YtfkhlbhjhdpkoaaDoor
open Go.RowKit
structure Source where
 Path:List UInt8
 Text:List UInt8
 deriving Inhabited,DecidableEq
def Jb(x:Source):D:=.ag [.v (str x.Path),.v (str x.Text)]
theorem JfK(x y:Source)(h:Jb x=Jb y):x=y:=by
 rcases x with⟨_,_⟩; rcases y with⟨_,_⟩
 simp only[Jb,D.ag.injEq,List.cons.injEq,and_true]at h
 obtain⟨h0,h1⟩:=h
 have h0:=Jae _ _ h0
 have h1:=Jae _ _ h1
 subst_vars
 rfl
theorem Je4(x y:Source)(h:K9 (Jb x)=K9 (Jb y)):x=y:=by
 rcases x with⟨_,_⟩; rcases y with⟨_,_⟩
 simp only[Jb,K9,ZL,List.map_cons,List.map_nil,D.ag.injEq,List.cons.injEq,and_true]at h
 obtain⟨h0,h1⟩:=h
 have h0:=Jae _ _ h0
 have h1:=Jae _ _ h1
 subst_vars
 rfl
theorem Jhy(x:Source):(Jb x).cells.all D.one=true:=rfl
instance:DInj Jb:=⟨Je4,JfK⟩
structure Fault where
 Err:Int
 File:Int
 At:Int
 deriving Inhabited,DecidableEq
def Vv(x:Fault):D:=.ag [.v (.int .i64 x.Err),.v (.int .i64 x.File),.v (.int .i64 x.At)]
theorem Jgn(x y:Fault)(h:Vv x=Vv y):x=y:=by
 rcases x with⟨_,_,_⟩; rcases y with⟨_,_,_⟩
 simp only[Vv,D.ag.injEq,List.cons.injEq,and_true]at h
 obtain⟨h0,h1,h2⟩:=h
 have h0:=VP _ _ h0
 have h1:=VP _ _ h1
 have h2:=VP _ _ h2
 subst_vars
 rfl
theorem JfH(x y:Fault)(h:K9 (Vv x)=K9 (Vv y)):x=y:=by
 rcases x with⟨_,_,_⟩; rcases y with⟨_,_,_⟩
 simp only[Vv,K9,ZL,List.map_cons,List.map_nil,D.ag.injEq,List.cons.injEq,and_true]at h
 obtain⟨h0,h1,h2⟩:=h
 have h0:=VP _ _ h0
 have h1:=VP _ _ h1
 have h2:=VP _ _ h2
 subst_vars
 rfl
instance:DInj Vv:=⟨JfH,Jgn⟩
structure Edit where
 File:Int
 From:Int
 To:Int
 Text:List UInt8
 deriving Inhabited,DecidableEq
def Ja(x:Edit):D:=.ag [.v (.int .i64 x.File),.v (.int .i64 x.From),.v (.int .i64 x.To),.v (str x.Text)]
theorem JhA(x y:Edit)(h:Ja x=Ja y):x=y:=by
 rcases x with⟨_,_,_,_⟩; rcases y with⟨_,_,_,_⟩
 simp only[Ja,D.ag.injEq,List.cons.injEq,and_true]at h
 obtain⟨h0,h1,h2,h3⟩:=h
 have h0:=VP _ _ h0
 have h1:=VP _ _ h1
 have h2:=VP _ _ h2
 have h3:=Jae _ _ h3
 subst_vars
 rfl
theorem JgB(x y:Edit)(h:K9 (Ja x)=K9 (Ja y)):x=y:=by
 rcases x with⟨_,_,_,_⟩; rcases y with⟨_,_,_,_⟩
 simp only[Ja,K9,ZL,List.map_cons,List.map_nil,D.ag.injEq,List.cons.injEq,and_true]at h
 obtain⟨h0,h1,h2,h3⟩:=h
 have h0:=VP _ _ h0
 have h1:=VP _ _ h1
 have h2:=VP _ _ h2
 have h3:=Jae _ _ h3
 subst_vars
 rfl
theorem JfY(x:Edit):(Ja x).cells.all D.one=true:=rfl
instance:DInj Ja:=⟨JgB,JhA⟩
end Go.Proofs.YtfkhlbhjhdpkoaaDoor
