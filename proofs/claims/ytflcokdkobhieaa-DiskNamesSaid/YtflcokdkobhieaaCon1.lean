/- Nothing but an import. -/
import Derived.Test.YtflcokdkobhieaaConD
